/- Contracts of Go functions and plain facts, of several texts, one behind the other; no condition. -/
import Derived.Test.YtfpkakedlapmkaaMDictForms5
import Derived.Test.YtfpkakedlapmkaaMDictForms4
import Derived.Test.YtfpkakedlapmkaaMDictForms2
import Derived.Test.YtfpkakedlapmkaaMDictForms3
section
set_option linter.unusedSimpArgs false
set_option linter.unusedVariables false
namespace Go.Proofs.Ytfpkakedlapmkaa.Q
open Go.RowKit Go.Proofs.YtfpkakedlapmkaaW.PrintWords Go.Proofs.YtfpkakedlapmkaaW.PrintLast Go.Proofs.YtfpkakedlapmkaaW.PrintMore
attribute [local go_sem] max2_int min2_int max_two min_two max_three min_three max_four min_four
def rootOk (x : S91) : Bool := (x.f0.toList == ([] : List UInt8)) && (((x.f1.length : Int) == 0) && (x.f2 == -1))
def kidOk (T : List S91) (i : Int) (x : S91) : Bool := namedF x.f0 && (!decide (4 < (x.f1.length : Int)) && (!decide (x.f2 < 0) && (!decide (i ≤ x.f2) && !T.any (isN x.f2 x.f0 x.f1))))
def nodeOk (t : List S91) (i : Nat) : Bool := (!decide (16 < ((t.getD i z91).f4.length : Int)) && propsF (t.getD i z91).f3) && (if (i : Int) == 0 then rootOk (t.getD i z91) else kidOk (t.take i) i (t.getD i z91))
def treeF (t : List S91) : Bool := !((t.length : Int) == 0) && (!decide (32 < (t.length : Int)) && (List.range t.length).all (nodeOk t))
theorem info91s : (Try.prog.info? 91).map (·.size) = some 5 := by kernel_rfl
theorem box_new5 (wr : World) (a b c d e : Value) (t : Nat) : (wr.alloc (.cells #[a, b, c, d, e] t)).heap[wr.heap.size]? = some (.cells #[a, b, c, d, e] t (0, 0)) := heap_alloc_new wr _
theorem held3_start {g : Nat} {a b c d e : Value} {t : Nat} {w W : World} (hh : W.heap[g]? = some (.cells #[a, b, c, d, e] t (0, 0))) (hb : Below w.heap.size w W) : ((W.drew.cell? ⟨g, 0, none⟩ = some a ∧ W.drew.cell? ⟨g, 1, none⟩ = some b ∧ W.drew.cell? ⟨g, 2, none⟩ = some c) ∧ Below w.heap.size w W.drew) :=
 ⟨⟨blk_cell hh 0, blk_cell hh 1, blk_cell hh 2⟩, below_drew1 hb⟩
theorem held3_step {g : Nat} {a b c : Value} {w W w2 : World} (h : (W.cell? ⟨g, 0, none⟩ = some a ∧ W.cell? ⟨g, 1, none⟩ = some b ∧ W.cell? ⟨g, 2, none⟩ = some c) ∧ Below w.heap.size w W) (hb : Below W.heap.size W w2) : (w2.cell? ⟨g, 0, none⟩ = some a ∧ w2.cell? ⟨g, 1, none⟩ = some b ∧ w2.cell? ⟨g, 2, none⟩ = some c) ∧ Below w.heap.size w w2 :=
 ⟨⟨(hb.cell (World.block_lt_of_cell? _ _ h.1.1)).trans h.1.1, (hb.cell (World.block_lt_of_cell? _ _ h.1.2.1)).trans h.1.2.1, (hb.cell (World.block_lt_of_cell? _ _ h.1.2.2)).trans h.1.2.2⟩, below_step h.2 hb⟩
set_option maxHeartbeats 16000000 in
set_option maxRecDepth 100000 in
theorem treeFormed_calls (A : Option Addr) (c : Nat) (l : List S91) (w : World) (hC : Kd.C k91 w A l.length l) (hc : l.length ≤ c) :
  Calls Try.prog 44 #[.slice A l.length c] w fun e w' => e = .returned (.bool (treeF l)) ∧ Below w.heap.size w w' := by
 have hu91 := Try.underlying91
 have hm := Kd.C_max hC
 cases h0 : ((l.length : Int) == 0)
 ·cases h32 : decide (32 < (l.length : Int))
  ·have HPF := Aside0.mk (show treeF l = (List.range l.length).all (nodeOk l) by unfold treeF; rw [h0, h32]; rfl)
   have HC := Aside0.mk hC
   have HCC := Aside0.mk hc
   have H32 := Aside0.mk (of_decide_eq_false h32)
   have HNM := Aside0.mk (fun (s : ByteArray) (W : World) => prop_Named.calls 400 s (namedF s) W (named_eq 400 (by decide) s))
   have HPR := Aside0.mk (fun (A : Option Addr) (c : Nat) (l : List S106) (W : World) (hC : Kd.C k106 W A l.length l) (hc : l.length ≤ c) => propsFormed_calls A c l W hC hc)
   have HB0 := Aside0.mk (Below.refl w.heap.size w)
   have mixed : Try.prog.follows Departure.mixedOrders = true := by kernel_rfl
   clear hC hc hm
   go_enter Try.func44, Try.ntmps44
   go_wp2
   go_loopg [15] l.length (fun kq v8 w' => ∃ i : Int, v8 = .int .i64 i ∧ Aside0 (0 ≤ i ∧ i + kq = l.length) ∧ Aside0 (∀ j : Nat, j < i.toNat → nodeOk l j = true) ∧ Aside0 (Below w.heap.size w w'))
   case atStart => exact ⟨0, rfl, ⟨by omega, by omega⟩, ⟨fun j hj => absurd hj (by simp)⟩, ⟨Below.refl _ _⟩⟩
   case round =>
    obtain ⟨i, rfl, HI, HZ, HB⟩ := hrel
    cases gk with
    | zero =>
     have hlt : decide (i < (l.length : Int)) = false := decide_eq_false (by have := HI.out; omega)
     go_wp2
     go_ret
     have hz := HZ.out
     have hi := HI.out
     exact ⟨by rw [HPF.out, range_all _ _ (fun j hj => hz j (by omega))]; rfl, HB.out⟩
    | succ k1 =>
     have hi := HI.out
     have hlt : decide (i < (l.length : Int)) = true := decide_eq_true (by omega)
     have p1 : (0 ≤ i) = True := eq_true (by omega)
     have p2 : (i < (l.length : Int)) = True := eq_true (by omega)
     obtain ⟨ad, A1, c1, A3, c3, A4, c4, eA, hx0, hx1, hx2, hx3, hx4, hl1, hg1, hl3, hg3, hl4, hg4⟩ := at_T91 (Kd.C_below HC.out HB.out) i (by omega) (by omega)
     cases eA
     have hwr : IntKind.i64.wrap (i + 1) = i + 1 := (i64_w _).trans (by unfold wrap64; have := H32.out; omega)
     have hwr2 : wrap64 (i + 1) = i + 1 := by unfold wrap64; have := H32.out; omega
     have hcut := run_cut_hi (P := Try.prog) Try.underlying29 info91s (some ad) l.length c i (by omega) (by have := HCC.out; omega)
     have HTK := Aside0.mk (fun (W : World) (hb : Below w.heap.size w W) => (Kd.C_take (Kd.C_below HC.out hb) (by omega) : Kd.C k91 W (some ad) (l.take i.toNat).length (l.take i.toNat)))
     have HTL := Aside0.mk (show (l.take i.toNat).length = i.toNat by rw [List.length_take]; omega)
     have HPO := Aside0.mk (show nodeOk l i.toNat = ((!decide (16 < ((rd_T91 l i).f4.length : Int)) && propsF (rd_T91 l i).f3) && (if i == 0 then rootOk (rd_T91 l i) else kidOk (l.take i.toNat) i (rd_T91 l i))) by
      have e : ((i.toNat : Nat) : Int) = i := by omega
      unfold nodeOk
      rw [e]
      rfl)
     have HG1 := Aside0.mk hg1
     have HL1 := Aside0.mk hl1
     have HPX := Aside0.mk (fun (W : World) (hb : Below wr.heap.size wr W) => HPR.out A3 c3 (rd_T91 l i).f3 W (Kd.C_below hg3 hb) hl3)
     generalize rd_T91 l i = x at *
     rw [← HTL.out] at hcut
     have HHI := Aside0.mk hi
     have HCN := Aside0.mk (fun (g1 g2 g3 : Nat) (W : World) (hb : Below w.heap.size w W) (hbr : Below wr.heap.size wr W) (h1 : W.heap[g1]? = some (.cells #[.int .i64 x.f2] 3 (0, 0))) (h2 : W.heap[g2]? = some (.cells #[.string x.f0] 9 (0, 0))) (h3 : W.heap[g3]? = some (.cells #[.slice A1 x.f1.length c1] 24 (0, 0))) => containsNode_calls x.f2 x.f0 x.f1 A1 c1 g1 g2 g3 (some ad) c (l.take i.toNat) W (HTK.out W hb) h1 h2 h3 (Kd.C_below HG1.out hbr) HL1.out)
     have HNA := Aside0.mk (fun W : World => HNM.out x.f0 W)
     have HBXN := Aside0.mk (box_new5 wr (.string x.f0) (.slice A1 x.f1.length c1) (.int .i64 x.f2) (.slice A3 x.f3.length c3) (.slice A4 x.f4.length c4) 91)
     have HBW := Aside0.mk (below_alloc (Below.refl wr.heap.size wr) (.cells #[.string x.f0, .slice A1 x.f1.length c1, .int .i64 x.f2, .slice A3 x.f3.length c3, .slice A4 x.f4.length c4] 91 (0, 0)))
     generalize l.take i.toNat = LT at *
     clear hi hl1 hg1 hl3 hg3 hl4 hg4
     cases e0 : decide (16 < (x.f4.length : Int))
     ·cases b1 : propsF x.f3
      ·rw [e0, b1] at HPO
       rw [b1] at HPX
       go_wp2_with (first
        | (go_at_call 72; (with_reducible refine (HPX.out _ HBW.out).mono ?_); rintro e w2 ⟨rfl, hb⟩; have HBX := Aside0.mk ((hb.block wr.heap.size (blk_lt HBXN.out)).trans HBXN.out); have HB2 := Aside0.mk (below_step HBW.out hb); have hz0 := (blk_cell HBX.out 0).trans rfl; have hz1 := (blk_cell HBX.out 1).trans rfl; have hz2 := (blk_cell HBX.out 2).trans rfl; clear hb))
       go_ret
       have hi := HHI.out
       exact ⟨by rw [HPF.out, range_not _ _ i.toNat (by omega) (by rw [HPO.out]; rfl)]; rfl, below_step HB.out HB2.out⟩
      ·rw [b1] at HPX
       cases e1 : (i == 0)
       ·rw [e0, b1, e1] at HPO
        have HKO := Aside0.mk (show kidOk LT i x = (namedF x.f0 && (!decide (4 < (x.f1.length : Int)) && (!decide (x.f2 < 0) && (!decide (i ≤ x.f2) && !LT.any (isN x.f2 x.f0 x.f1))))) from rfl)
        clear b1
        cases b2 : namedF x.f0
        ·rw [b2] at HKO HNA
         clear b2
         go_wp2_with (first
          | (go_at_call 72; (with_reducible refine (HPX.out _ HBW.out).mono ?_); rintro e w2 ⟨rfl, hb⟩; have HBX := Aside0.mk ((hb.block wr.heap.size (blk_lt HBXN.out)).trans HBXN.out); have HB2 := Aside0.mk (below_step HBW.out hb); have hz0 := (blk_cell HBX.out 0).trans rfl; have hz1 := (blk_cell HBX.out 1).trans rfl; have hz2 := (blk_cell HBX.out 2).trans rfl; clear hb)
          | (go_at_call 73; (with_reducible refine (HNA.out _).mono ?_); rintro e w3 ⟨rfl, hb⟩; clear hz0 hz1 hz2; have HBX3 := Aside0.mk ((hb.block wr.heap.size (blk_lt HBX.out)).trans HBX.out); have HB3 := Aside0.mk (below_step HB2.out hb); have hz0 := (blk_cell HBX3.out 0).trans rfl; have hz1 := (blk_cell HBX3.out 1).trans rfl; have hz2 := (blk_cell HBX3.out 2).trans rfl; clear hb))
         go_ret
         have hi := HHI.out
         exact ⟨by rw [HPF.out, range_not _ _ i.toNat (by omega) (by rw [HPO.out, HKO.out]; rfl)]; rfl, below_step HB.out HB3.out⟩
        ·rw [b2] at HKO HNA
         clear b2
         cases e4 : decide (4 < (x.f1.length : Int))
         ·rw [e4] at HKO
          cases e5 : decide (x.f2 < 0)
          ·rw [e5] at HKO
           cases e6 : decide (i ≤ x.f2)
           ·rw [e6] at HKO
            cases b3 : LT.any (isN x.f2 x.f0 x.f1)
            ·rw [b3] at HKO HCN
             clear b3
             go_wp2_with (first
              | (go_at_call 72; (with_reducible refine (HPX.out _ HBW.out).mono ?_); rintro e w2 ⟨rfl, hb⟩; have HBX := Aside0.mk ((hb.block wr.heap.size (blk_lt HBXN.out)).trans HBXN.out); have HB2 := Aside0.mk (below_step HBW.out hb); have hz0 := (blk_cell HBX.out 0).trans rfl; have hz1 := (blk_cell HBX.out 1).trans rfl; have hz2 := (blk_cell HBX.out 2).trans rfl; clear hb)
              | (go_at_call 73; (with_reducible refine (HNA.out _).mono ?_); rintro e w3 ⟨rfl, hb⟩; clear hz0 hz1 hz2; have HBX3 := Aside0.mk ((hb.block wr.heap.size (blk_lt HBX.out)).trans HBX.out); have HB3 := Aside0.mk (below_step HB2.out hb); have hz0 := (blk_cell HBX3.out 0).trans rfl; have hz1 := (blk_cell HBX3.out 1).trans rfl; have hz2 := (blk_cell HBX3.out 2).trans rfl; clear hb))
             refine start_ (n := 12) (S := fun w' => (w'.cell? ⟨wr.heap.size, 0, none⟩ = some (.string x.f0) ∧ w'.cell? ⟨wr.heap.size, 1, none⟩ = some (.slice A1 x.f1.length c1) ∧ w'.cell? ⟨wr.heap.size, 2, none⟩ = some (.int .i64 x.f2)) ∧ Below wr.heap.size wr w') (ds := []) #[false, false, false, false, false, false, false, false, false, false, false, false] (by kernel_rfl) rfl rfl (held3_start HBX3.out HB3.out) (fun hHeld => ?_)
             refine pure_ (i := 0) (N := some 71) (v := ?_) (a' := ?_) #[true, false, false, false, false, false, false, false, false, false, false, false] rfl rfl (by kernel_rfl) (fun _ _ _ h => h) (Or.inl ⟨by rfl, ?_⟩) ?_ ?_
             rotate_left
             ·intro w'
              go_simp
              with_reducible rfl
             rotate_left
             ·simp only [Act.put, List.setIfInBounds_toArray, List.set_cons_zero, List.set_cons_succ]
              rfl
             refine pure_ (i := 1) (N := some 72) (v := ?_) (a' := ?_) #[true, true, false, false, false, false, false, false, false, false, false, false] rfl rfl (by kernel_rfl) (fun _ _ _ h => h) (Or.inl ⟨by rfl, ?_⟩) ?_ ?_
             rotate_left
             ·intro w'
              go_simp
              with_reducible rfl
             rotate_left
             ·simp only [Act.put, List.setIfInBounds_toArray, List.set_cons_zero, List.set_cons_succ]
              rfl
             refine pure_ (i := 2) (N := some 73) (v := ?_) (a' := ?_) #[true, true, true, false, false, false, false, false, false, false, false, false] rfl rfl (by kernel_rfl) (fun _ _ _ h => h) (Or.inl ⟨by rfl, ?_⟩) ?_ ?_
             rotate_left
             ·intro w'
              go_simp
              with_reducible rfl
             rotate_left
             ·simp only [Act.put, List.setIfInBounds_toArray, List.set_cons_zero, List.set_cons_succ]
              rfl
             refine pure_ (i := 3) (N := some 74) (v := ?_) (a' := ?_) #[true, true, true, true, false, false, false, false, false, false, false, false] rfl rfl (by kernel_rfl) (fun _ _ _ h => h) (Or.inl ⟨by rfl, ?_⟩) ?_ ?_
             rotate_left
             ·intro w'
              go_simp
              with_reducible rfl
             rotate_left
             ·simp only [Act.put, List.setIfInBounds_toArray, List.set_cons_zero, List.set_cons_succ]
              rfl
             refine take_ (i := 4) (N := some 75) (v := (.int .i64 x.f2)) (a' := ?_) #[true, true, true, true, true, false, false, false, false, false, false, false] rfl rfl (by kernel_rfl) (fun _ _ _ h => h) (Or.inl ⟨by rfl, ?_⟩) hHeld ?_ ?_
             rotate_left
             rotate_left
             ·simp only [Act.put, List.setIfInBounds_toArray, List.set_cons_zero, List.set_cons_succ]
              rfl
             rotate_left
             ·rintro w' ⟨⟨s0, s1, s2⟩, s3⟩
              go_simp
             refine pure_ (i := 5) (N := some 76) (v := ?_) (a' := ?_) #[true, true, true, true, true, true, false, false, false, false, false, false] rfl rfl (by kernel_rfl) (fun _ _ _ h => h) (Or.inl ⟨by rfl, ?_⟩) ?_ ?_
             rotate_left
             ·intro w'
              go_simp
              with_reducible rfl
             rotate_left
             ·simp only [Act.put, List.setIfInBounds_toArray, List.set_cons_zero, List.set_cons_succ]
              rfl
             refine take_ (i := 6) (N := some 77) (v := (.string x.f0)) (a' := ?_) #[true, true, true, true, true, true, true, false, false, false, false, false] rfl rfl (by kernel_rfl) (fun _ _ _ h => h) (Or.inl ⟨by rfl, ?_⟩) hHeld ?_ ?_
             rotate_left
             rotate_left
             ·simp only [Act.put, List.setIfInBounds_toArray, List.set_cons_zero, List.set_cons_succ]
              rfl
             rotate_left
             ·rintro w' ⟨⟨s0, s1, s2⟩, s3⟩
              go_simp
             refine pure_ (i := 7) (N := some 78) (v := ?_) (a' := ?_) #[true, true, true, true, true, true, true, true, false, false, false, false] rfl rfl (by kernel_rfl) (fun _ _ _ h => h) (Or.inl ⟨by rfl, ?_⟩) ?_ ?_
             rotate_left
             ·intro w'
              go_simp
              with_reducible rfl
             rotate_left
             ·simp only [Act.put, List.setIfInBounds_toArray, List.set_cons_zero, List.set_cons_succ]
              rfl
             refine take_ (i := 8) (N := some 79) (v := (.slice A1 x.f1.length c1)) (a' := ?_) #[true, true, true, true, true, true, true, true, true, false, false, false] rfl rfl (by kernel_rfl) (fun _ _ _ h => h) (Or.inl ⟨by rfl, ?_⟩) hHeld ?_ ?_
             rotate_left
             rotate_left
             ·simp only [Act.put, List.setIfInBounds_toArray, List.set_cons_zero, List.set_cons_succ]
              rfl
             rotate_left
             ·rintro w' ⟨⟨s0, s1, s2⟩, s3⟩
              go_simp
             refine one_ (i := 9) (N := some 80) #[true, true, true, true, true, true, true, true, true, true, false, false] rfl rfl (by kernel_rfl) (by decide) (fun K hK => ?_)
             refine goes_ Try.func75 (by kernel_rfl) rfl #[.int .i64 x.f2, .string x.f0, .slice A1 x.f1.length c1] (by rfl) rfl rfl (by first | rfl | (simp only [List.map_toArray, List.map_cons, List.map_nil]; rfl)) ?_
             refine (is_calls x.f2 x.f0 A1 x.f1.length c1 _).mono ?_
             rintro e w4 ⟨g1, g2, g3, rfl, hgs, h1, h2, h3, hb⟩
             have H1 := Aside0.mk h1
             have H2 := Aside0.mk h2
             have H3 := Aside0.mk h3
             refine ⟨_, rfl, hK.out _ _ (held3_step hHeld hb) (fun hHeld => ?_)⟩
             clear hgs h1 h2 h3 hb
             clear hK K
             simp only [Act.put, List.setIfInBounds_toArray, List.set_cons_zero, List.set_cons_succ]
             refine one_ (i := 10) (N := some 81) #[true, true, true, true, true, true, true, true, true, true, true, false] rfl rfl (by kernel_rfl) (by decide) (fun K hK => ?_)
             refine goes_ Try.func74 (by kernel_rfl) rfl #[.slice (some ad) LT.length c, .func (.func 94) #[] #[.pointer (some ⟨g1, 0, none⟩), .pointer (some ⟨g2, 0, none⟩), .pointer (some ⟨g3, 0, none⟩)]] (by rfl) rfl rfl (by first | rfl | (simp only [List.map_toArray, List.map_cons, List.map_nil]; rfl)) ?_
             refine (HCN.out g1 g2 g3 _ (below_step HB.out hHeld.2) hHeld.2 H1.out H2.out H3.out).mono ?_
             rintro e w5 ⟨rfl, hb⟩
             refine ⟨_, rfl, hK.out _ _ (held3_step hHeld hb) (fun hHeld => ?_)⟩
             clear hb
             clear hK K
             simp only [Act.put, List.setIfInBounds_toArray, List.set_cons_zero, List.set_cons_succ]
             refine pure_ (i := 11) (N := some 70) (v := ?_) (a' := ?_) #[true, true, true, true, true, true, true, true, true, true, true, true] rfl rfl (by kernel_rfl) (fun _ _ _ h => h) (Or.inl ⟨by rfl, ?_⟩) ?_ ?_
             rotate_left
             ·intro w'
              go_simp
              with_reducible rfl
             rotate_left
             ·simp only [Act.put, List.setIfInBounds_toArray, List.set_cons_zero, List.set_cons_succ]
              rfl
             refine done_ (n := 0) (by kernel_rfl) ?_
             go_wp2
             go_roundg k1
             case measure => omega
             case rel =>
              have hi := HHI.out
              refine ⟨i + 1, rfl, ⟨by omega, by omega⟩, ⟨fun j hj => ?_⟩, ⟨below_step HB.out hHeld.2⟩⟩
              by_cases hji : j = i.toNat
              ·subst hji
               rw [HPO.out, HKO.out]
               rfl
              ·exact HZ.out j (by omega)
            ·rw [b3] at HKO HCN
             clear b3
             go_wp2_with (first
              | (go_at_call 72; (with_reducible refine (HPX.out _ HBW.out).mono ?_); rintro e w2 ⟨rfl, hb⟩; have HBX := Aside0.mk ((hb.block wr.heap.size (blk_lt HBXN.out)).trans HBXN.out); have HB2 := Aside0.mk (below_step HBW.out hb); have hz0 := (blk_cell HBX.out 0).trans rfl; have hz1 := (blk_cell HBX.out 1).trans rfl; have hz2 := (blk_cell HBX.out 2).trans rfl; clear hb)
              | (go_at_call 73; (with_reducible refine (HNA.out _).mono ?_); rintro e w3 ⟨rfl, hb⟩; clear hz0 hz1 hz2; have HBX3 := Aside0.mk ((hb.block wr.heap.size (blk_lt HBX.out)).trans HBX.out); have HB3 := Aside0.mk (below_step HB2.out hb); have hz0 := (blk_cell HBX3.out 0).trans rfl; have hz1 := (blk_cell HBX3.out 1).trans rfl; have hz2 := (blk_cell HBX3.out 2).trans rfl; clear hb))
             refine start_ (n := 12) (S := fun w' => (w'.cell? ⟨wr.heap.size, 0, none⟩ = some (.string x.f0) ∧ w'.cell? ⟨wr.heap.size, 1, none⟩ = some (.slice A1 x.f1.length c1) ∧ w'.cell? ⟨wr.heap.size, 2, none⟩ = some (.int .i64 x.f2)) ∧ Below wr.heap.size wr w') (ds := []) #[false, false, false, false, false, false, false, false, false, false, false, false] (by kernel_rfl) rfl rfl (held3_start HBX3.out HB3.out) (fun hHeld => ?_)
             refine pure_ (i := 0) (N := some 71) (v := ?_) (a' := ?_) #[true, false, false, false, false, false, false, false, false, false, false, false] rfl rfl (by kernel_rfl) (fun _ _ _ h => h) (Or.inl ⟨by rfl, ?_⟩) ?_ ?_
             rotate_left
             ·intro w'
              go_simp
              with_reducible rfl
             rotate_left
             ·simp only [Act.put, List.setIfInBounds_toArray, List.set_cons_zero, List.set_cons_succ]
              rfl
             refine pure_ (i := 1) (N := some 72) (v := ?_) (a' := ?_) #[true, true, false, false, false, false, false, false, false, false, false, false] rfl rfl (by kernel_rfl) (fun _ _ _ h => h) (Or.inl ⟨by rfl, ?_⟩) ?_ ?_
             rotate_left
             ·intro w'
              go_simp
              with_reducible rfl
             rotate_left
             ·simp only [Act.put, List.setIfInBounds_toArray, List.set_cons_zero, List.set_cons_succ]
              rfl
             refine pure_ (i := 2) (N := some 73) (v := ?_) (a' := ?_) #[true, true, true, false, false, false, false, false, false, false, false, false] rfl rfl (by kernel_rfl) (fun _ _ _ h => h) (Or.inl ⟨by rfl, ?_⟩) ?_ ?_
             rotate_left
             ·intro w'
              go_simp
              with_reducible rfl
             rotate_left
             ·simp only [Act.put, List.setIfInBounds_toArray, List.set_cons_zero, List.set_cons_succ]
              rfl
             refine pure_ (i := 3) (N := some 74) (v := ?_) (a' := ?_) #[true, true, true, true, false, false, false, false, false, false, false, false] rfl rfl (by kernel_rfl) (fun _ _ _ h => h) (Or.inl ⟨by rfl, ?_⟩) ?_ ?_
             rotate_left
             ·intro w'
              go_simp
              with_reducible rfl
             rotate_left
             ·simp only [Act.put, List.setIfInBounds_toArray, List.set_cons_zero, List.set_cons_succ]
              rfl
             refine take_ (i := 4) (N := some 75) (v := (.int .i64 x.f2)) (a' := ?_) #[true, true, true, true, true, false, false, false, false, false, false, false] rfl rfl (by kernel_rfl) (fun _ _ _ h => h) (Or.inl ⟨by rfl, ?_⟩) hHeld ?_ ?_
             rotate_left
             rotate_left
             ·simp only [Act.put, List.setIfInBounds_toArray, List.set_cons_zero, List.set_cons_succ]
              rfl
             rotate_left
             ·rintro w' ⟨⟨s0, s1, s2⟩, s3⟩
              go_simp
             refine pure_ (i := 5) (N := some 76) (v := ?_) (a' := ?_) #[true, true, true, true, true, true, false, false, false, false, false, false] rfl rfl (by kernel_rfl) (fun _ _ _ h => h) (Or.inl ⟨by rfl, ?_⟩) ?_ ?_
             rotate_left
             ·intro w'
              go_simp
              with_reducible rfl
             rotate_left
             ·simp only [Act.put, List.setIfInBounds_toArray, List.set_cons_zero, List.set_cons_succ]
              rfl
             refine take_ (i := 6) (N := some 77) (v := (.string x.f0)) (a' := ?_) #[true, true, true, true, true, true, true, false, false, false, false, false] rfl rfl (by kernel_rfl) (fun _ _ _ h => h) (Or.inl ⟨by rfl, ?_⟩) hHeld ?_ ?_
             rotate_left
             rotate_left
             ·simp only [Act.put, List.setIfInBounds_toArray, List.set_cons_zero, List.set_cons_succ]
              rfl
             rotate_left
             ·rintro w' ⟨⟨s0, s1, s2⟩, s3⟩
              go_simp
             refine pure_ (i := 7) (N := some 78) (v := ?_) (a' := ?_) #[true, true, true, true, true, true, true, true, false, false, false, false] rfl rfl (by kernel_rfl) (fun _ _ _ h => h) (Or.inl ⟨by rfl, ?_⟩) ?_ ?_
             rotate_left
             ·intro w'
              go_simp
              with_reducible rfl
             rotate_left
             ·simp only [Act.put, List.setIfInBounds_toArray, List.set_cons_zero, List.set_cons_succ]
              rfl
             refine take_ (i := 8) (N := some 79) (v := (.slice A1 x.f1.length c1)) (a' := ?_) #[true, true, true, true, true, true, true, true, true, false, false, false] rfl rfl (by kernel_rfl) (fun _ _ _ h => h) (Or.inl ⟨by rfl, ?_⟩) hHeld ?_ ?_
             rotate_left
             rotate_left
             ·simp only [Act.put, List.setIfInBounds_toArray, List.set_cons_zero, List.set_cons_succ]
              rfl
             rotate_left
             ·rintro w' ⟨⟨s0, s1, s2⟩, s3⟩
              go_simp
             refine one_ (i := 9) (N := some 80) #[true, true, true, true, true, true, true, true, true, true, false, false] rfl rfl (by kernel_rfl) (by decide) (fun K hK => ?_)
             refine goes_ Try.func75 (by kernel_rfl) rfl #[.int .i64 x.f2, .string x.f0, .slice A1 x.f1.length c1] (by rfl) rfl rfl (by first | rfl | (simp only [List.map_toArray, List.map_cons, List.map_nil]; rfl)) ?_
             refine (is_calls x.f2 x.f0 A1 x.f1.length c1 _).mono ?_
             rintro e w4 ⟨g1, g2, g3, rfl, hgs, h1, h2, h3, hb⟩
             have H1 := Aside0.mk h1
             have H2 := Aside0.mk h2
             have H3 := Aside0.mk h3
             refine ⟨_, rfl, hK.out _ _ (held3_step hHeld hb) (fun hHeld => ?_)⟩
             clear hgs h1 h2 h3 hb
             clear hK K
             simp only [Act.put, List.setIfInBounds_toArray, List.set_cons_zero, List.set_cons_succ]
             refine one_ (i := 10) (N := some 81) #[true, true, true, true, true, true, true, true, true, true, true, false] rfl rfl (by kernel_rfl) (by decide) (fun K hK => ?_)
             refine goes_ Try.func74 (by kernel_rfl) rfl #[.slice (some ad) LT.length c, .func (.func 94) #[] #[.pointer (some ⟨g1, 0, none⟩), .pointer (some ⟨g2, 0, none⟩), .pointer (some ⟨g3, 0, none⟩)]] (by rfl) rfl rfl (by first | rfl | (simp only [List.map_toArray, List.map_cons, List.map_nil]; rfl)) ?_
             refine (HCN.out g1 g2 g3 _ (below_step HB.out hHeld.2) hHeld.2 H1.out H2.out H3.out).mono ?_
             rintro e w5 ⟨rfl, hb⟩
             refine ⟨_, rfl, hK.out _ _ (held3_step hHeld hb) (fun hHeld => ?_)⟩
             clear hb
             clear hK K
             simp only [Act.put, List.setIfInBounds_toArray, List.set_cons_zero, List.set_cons_succ]
             refine pure_ (i := 11) (N := some 70) (v := ?_) (a' := ?_) #[true, true, true, true, true, true, true, true, true, true, true, true] rfl rfl (by kernel_rfl) (fun _ _ _ h => h) (Or.inl ⟨by rfl, ?_⟩) ?_ ?_
             rotate_left
             ·intro w'
              go_simp
              with_reducible rfl
             rotate_left
             ·simp only [Act.put, List.setIfInBounds_toArray, List.set_cons_zero, List.set_cons_succ]
              rfl
             refine done_ (n := 0) (by kernel_rfl) ?_
             go_wp2
             go_ret
             have hi := HHI.out
             exact ⟨by rw [HPF.out, range_not _ _ i.toNat (by omega) (by rw [HPO.out, HKO.out]; rfl)]; rfl, below_step HB.out hHeld.2⟩
           ·rw [e6] at HKO
            go_wp2_with (first
             | (go_at_call 72; (with_reducible refine (HPX.out _ HBW.out).mono ?_); rintro e w2 ⟨rfl, hb⟩; have HBX := Aside0.mk ((hb.block wr.heap.size (blk_lt HBXN.out)).trans HBXN.out); have HB2 := Aside0.mk (below_step HBW.out hb); have hz0 := (blk_cell HBX.out 0).trans rfl; have hz1 := (blk_cell HBX.out 1).trans rfl; have hz2 := (blk_cell HBX.out 2).trans rfl; clear hb)
             | (go_at_call 73; (with_reducible refine (HNA.out _).mono ?_); rintro e w3 ⟨rfl, hb⟩; clear hz0 hz1 hz2; have HBX3 := Aside0.mk ((hb.block wr.heap.size (blk_lt HBX.out)).trans HBX.out); have HB3 := Aside0.mk (below_step HB2.out hb); have hz0 := (blk_cell HBX3.out 0).trans rfl; have hz1 := (blk_cell HBX3.out 1).trans rfl; have hz2 := (blk_cell HBX3.out 2).trans rfl; clear hb))
            go_ret
            have hi := HHI.out
            exact ⟨by rw [HPF.out, range_not _ _ i.toNat (by omega) (by rw [HPO.out, HKO.out]; rfl)]; rfl, below_step HB.out HB3.out⟩
          ·rw [e5] at HKO
           go_wp2_with (first
            | (go_at_call 72; (with_reducible refine (HPX.out _ HBW.out).mono ?_); rintro e w2 ⟨rfl, hb⟩; have HBX := Aside0.mk ((hb.block wr.heap.size (blk_lt HBXN.out)).trans HBXN.out); have HB2 := Aside0.mk (below_step HBW.out hb); have hz0 := (blk_cell HBX.out 0).trans rfl; have hz1 := (blk_cell HBX.out 1).trans rfl; have hz2 := (blk_cell HBX.out 2).trans rfl; clear hb)
            | (go_at_call 73; (with_reducible refine (HNA.out _).mono ?_); rintro e w3 ⟨rfl, hb⟩; clear hz0 hz1 hz2; have HBX3 := Aside0.mk ((hb.block wr.heap.size (blk_lt HBX.out)).trans HBX.out); have HB3 := Aside0.mk (below_step HB2.out hb); have hz0 := (blk_cell HBX3.out 0).trans rfl; have hz1 := (blk_cell HBX3.out 1).trans rfl; have hz2 := (blk_cell HBX3.out 2).trans rfl; clear hb))
           go_ret
           have hi := HHI.out
           exact ⟨by rw [HPF.out, range_not _ _ i.toNat (by omega) (by rw [HPO.out, HKO.out]; rfl)]; rfl, below_step HB.out HB3.out⟩
         ·rw [e4] at HKO
          go_wp2_with (first
           | (go_at_call 72; (with_reducible refine (HPX.out _ HBW.out).mono ?_); rintro e w2 ⟨rfl, hb⟩; have HBX := Aside0.mk ((hb.block wr.heap.size (blk_lt HBXN.out)).trans HBXN.out); have HB2 := Aside0.mk (below_step HBW.out hb); have hz0 := (blk_cell HBX.out 0).trans rfl; have hz1 := (blk_cell HBX.out 1).trans rfl; have hz2 := (blk_cell HBX.out 2).trans rfl; clear hb)
           | (go_at_call 73; (with_reducible refine (HNA.out _).mono ?_); rintro e w3 ⟨rfl, hb⟩; clear hz0 hz1 hz2; have HBX3 := Aside0.mk ((hb.block wr.heap.size (blk_lt HBX.out)).trans HBX.out); have HB3 := Aside0.mk (below_step HB2.out hb); have hz0 := (blk_cell HBX3.out 0).trans rfl; have hz1 := (blk_cell HBX3.out 1).trans rfl; have hz2 := (blk_cell HBX3.out 2).trans rfl; clear hb))
          go_ret
          have hi := HHI.out
          exact ⟨by rw [HPF.out, range_not _ _ i.toNat (by omega) (by rw [HPO.out, HKO.out]; rfl)]; rfl, below_step HB.out HB3.out⟩
       ·rw [e0, b1, e1] at HPO
        have HRO := Aside0.mk (show rootOk x = ((x.f0.toList == ([] : List UInt8)) && (((x.f1.length : Int) == 0) && (x.f2 == -1))) from rfl)
        clear b1
        cases n0 : (x.f0.toList == ([] : List UInt8))
        ·rw [n0] at HRO
         have n0' : (x.f0.toList != ([] : List UInt8)) = true := by rw [bne, n0]; rfl
         go_wp2_with (first
          | (go_at_call 72; (with_reducible refine (HPX.out _ HBW.out).mono ?_); rintro e w2 ⟨rfl, hb⟩; have HBX := Aside0.mk ((hb.block wr.heap.size (blk_lt HBXN.out)).trans HBXN.out); have HB2 := Aside0.mk (below_step HBW.out hb); have hz0 := (blk_cell HBX.out 0).trans rfl; have hz1 := (blk_cell HBX.out 1).trans rfl; have hz2 := (blk_cell HBX.out 2).trans rfl; clear hb))
         go_ret
         have hi := HHI.out
         exact ⟨by rw [HPF.out, range_not _ _ i.toNat (by omega) (by rw [HPO.out, HRO.out]; rfl)]; rfl, below_step HB.out HB2.out⟩
        ·have n0' : (x.f0.toList != ([] : List UInt8)) = false := by rw [bne, n0]; rfl
         cases u0 : ((x.f1.length : Int) == 0)
         ·rw [n0, u0] at HRO
          have u0' : ((x.f1.length : Int) != 0) = true := by rw [bne, u0]; rfl
          go_wp2_with (first
           | (go_at_call 72; (with_reducible refine (HPX.out _ HBW.out).mono ?_); rintro e w2 ⟨rfl, hb⟩; have HBX := Aside0.mk ((hb.block wr.heap.size (blk_lt HBXN.out)).trans HBXN.out); have HB2 := Aside0.mk (below_step HBW.out hb); have hz0 := (blk_cell HBX.out 0).trans rfl; have hz1 := (blk_cell HBX.out 1).trans rfl; have hz2 := (blk_cell HBX.out 2).trans rfl; clear hb))
          go_ret
          have hi := HHI.out
          exact ⟨by rw [HPF.out, range_not _ _ i.toNat (by omega) (by rw [HPO.out, HRO.out]; rfl)]; rfl, below_step HB.out HB2.out⟩
         ·have u0' : ((x.f1.length : Int) != 0) = false := by rw [bne, u0]; rfl
          cases p0 : (x.f2 == -1)
          ·rw [n0, u0, p0] at HRO
           have p0' : (x.f2 != -1) = true := by rw [bne, p0]; rfl
           go_wp2_with (first
            | (go_at_call 72; (with_reducible refine (HPX.out _ HBW.out).mono ?_); rintro e w2 ⟨rfl, hb⟩; have HBX := Aside0.mk ((hb.block wr.heap.size (blk_lt HBXN.out)).trans HBXN.out); have HB2 := Aside0.mk (below_step HBW.out hb); have hz0 := (blk_cell HBX.out 0).trans rfl; have hz1 := (blk_cell HBX.out 1).trans rfl; have hz2 := (blk_cell HBX.out 2).trans rfl; clear hb))
           go_ret
           have hi := HHI.out
           exact ⟨by rw [HPF.out, range_not _ _ i.toNat (by omega) (by rw [HPO.out, HRO.out]; rfl)]; rfl, below_step HB.out HB2.out⟩
          ·rw [n0, u0, p0] at HRO
           have p0' : (x.f2 != -1) = false := by rw [bne, p0]; rfl
           go_wp2_with (first
            | (go_at_call 72; (with_reducible refine (HPX.out _ HBW.out).mono ?_); rintro e w2 ⟨rfl, hb⟩; have HBX := Aside0.mk ((hb.block wr.heap.size (blk_lt HBXN.out)).trans HBXN.out); have HB2 := Aside0.mk (below_step HBW.out hb); have hz0 := (blk_cell HBX.out 0).trans rfl; have hz1 := (blk_cell HBX.out 1).trans rfl; have hz2 := (blk_cell HBX.out 2).trans rfl; clear hb))
           go_roundg k1
           case measure => omega
           case rel =>
            have hi := HHI.out
            refine ⟨i + 1, rfl, ⟨by omega, by omega⟩, ⟨fun j hj => ?_⟩, ⟨below_step HB.out HB2.out⟩⟩
            by_cases hji : j = i.toNat
            ·subst hji
             rw [HPO.out, HRO.out]
             rfl
            ·exact HZ.out j (by omega)
     ·rw [e0] at HPO
      go_wp2
      go_ret
      have hi := HHI.out
      exact ⟨by rw [HPF.out, range_not _ _ i.toNat (by omega) (by rw [HPO.out]; rfl)]; rfl, below_step HB.out (by first | exact HBW.out | exact HB2.out)⟩
  ·have HPF := Aside0.mk (show treeF l = false by unfold treeF; rw [h0, h32]; rfl)
   clear hC hc hm
   go_enter Try.func44, Try.ntmps44
   go_wp2
   go_ret
   exact ⟨by rw [HPF.out]; rfl, Below.refl _ _⟩
 ·have HPF := Aside0.mk (show treeF l = false by unfold treeF; rw [h0]; rfl)
  clear hC hc hm
  go_enter Try.func44, Try.ntmps44
  go_wp2
  go_ret
  exact ⟨by rw [HPF.out]; rfl, Below.refl _ _⟩
end Go.Proofs.Ytfpkakedlapmkaa.Q
end
section
set_option linter.unusedVariables false
namespace Go.Proofs.Ytfpkakedlapmkaa.Q
open Go.RowKit Go.Proofs.YtfpkakedlapmkaaW.PrintWords Go.Proofs.YtfpkakedlapmkaaW.PrintLast
def tree_Formed.f (l0 : List S91) : Option Bool := some (treeF l0)
/-- Lists short enough for a copy to be made. -/
def shortP (x : S106) : Bool := decide (x.f1.length < 140737488355328)
def shortN (x : S91) : Bool := decide (x.f1.length * 4 < 140737488355328) && (decide (x.f4.length * 4 < 140737488355328) && (decide (x.f3.length * 40 < 140737488355328) && x.f3.all shortP))
def shortT (l : List S91) : Bool := decide (l.length * 96 < 140737488355328) && l.all shortN
theorem shortN_G {x : S91} (h : shortN x = true) : G91 x := by
 simp only [shortN, Bool.and_eq_true, decide_eq_true_eq, List.all_eq_true] at h
 exact ⟨h.1, h.2.1, h.2.2.1, fun p hp => by
  have := h.2.2.2 p hp
  simp only [shortP, decide_eq_true_eq] at this
  show p.f1.length * 1 < _
  omega⟩
def tree_Copy.f (l0 : List S91) : Option (List S91) := if shortT l0 = true then some l0 else none
def slices_Clone_uint32_uint32.f (l0 : List Int) : Option (List Int) := if l0.length * 4 < 140737488355328 then some l0 else none
def slices_Clone_byte_byte.f (l0 : List Int) : Option (List Int) := if l0.length < 140737488355328 then some l0 else none
end Go.Proofs.Ytfpkakedlapmkaa.Q
end
section
set_option linter.unusedSimpArgs false
set_option linter.unusedVariables false
namespace Go.Proofs.Ytfpkakedlapmkaa.Q
open Go.RowKit Go.Proofs.YtfpkakedlapmkaaW.PrintWords Go.Proofs.YtfpkakedlapmkaaW.PrintLast
theorem rd82_mem (t : List S82) (i : Int) (h0 : 0 ≤ i) (h1 : i < t.length) : rd_T82 t i ∈ t := by
 unfold rd_T82
 rw [List.getD_eq_getElem?_getD, List.getElem?_eq_getElem (show i.toNat < t.length by omega)]
 exact List.getElem_mem _
theorem alls_at {α : Type} (P : α → Bool) (z : α) (l : List α) (i : Int) (h0 : 0 ≤ i) (h1 : i < l.length) : (l.drop i.toNat).all P = (P (l.getD i.toNat z) && (l.drop (i + 1).toNat).all P) := by
 rw [List.drop_eq_getElem_cons (show i.toNat < l.length by omega), show (i + 1).toNat = i.toNat + 1 by omega, List.all_cons]
 simp [List.getD_eq_getElem?_getD, List.getElem?_eq_getElem (show i.toNat < l.length by omega)]
def endsN : Nat → List S82 → Int → Bool
 | 0, _, _ => false
 | d + 1, l, n => (n == -1) || endsN d l (rd_T82 l n).f1
def okPar (l : List S82) : Prop := ∀ x ∈ l, -1 ≤ x.f1 ∧ x.f1 < (l.length : Int)
theorem ends_go (l : List S82) (hl : l.length ≤ 1000) (hp : okPar l) : ∀ (d k : Nat) (n i : Int), -1 ≤ n → n < l.length → 0 ≤ i → i + d = l.length + 1 → d < k → dict_ends.l0 k l n ((l.length : Int) + 1) i = some (endsN d l n)
 | 0, k, n, i, hn0, hn1, h0, h1, hk => by
  obtain ⟨k, rfl⟩ : ∃ m, k = m + 1 := ⟨k - 1, by omega⟩
  rw [dict_ends.l0, if_neg (by omega)]
  rfl
 | d + 1, k, n, i, hn0, hn1, h0, h1, hk => by
  obtain ⟨k, rfl⟩ : ∃ m, k = m + 1 := ⟨k - 1, by omega⟩
  have hw : wrap64 (i + 1) = i + 1 := by unfold wrap64; omega
  rw [dict_ends.l0, if_pos (by omega), endsN]
  by_cases e : n = -1
  ·rw [if_pos e, e]; rfl
  ·have hm := hp _ (rd82_mem l n (by omega) hn1)
   rw [if_neg e, if_pos (by omega), if_pos hn1, hw, ends_go l hl hp d k _ (i + 1) hm.1 hm.2 (by omega) (by omega) (by omega), beq_eq_false_iff_ne.2 e, Bool.false_or]
theorem ends_eq (l : List S82) (hl : l.length ≤ 1000) (hp : okPar l) (n : Int) (h0 : -1 ≤ n) (h1 : n < l.length) (k : Nat) (hk : 1002 ≤ k) : dict_ends.f k l n = some (endsN (l.length + 1) l n) := by
 unfold dict_ends.f
 rw [show wrap64 ((l.length : Int) + 1) = (l.length : Int) + 1 by unfold wrap64; omega]
 exact ends_go l hl hp _ k n 0 h0 h1 (Int.le_refl _) (by omega) (by omega)
/-! going from parent to parent -/
def itN (l : List S82) : Nat → Int → Int
 | 0, n => n
 | j + 1, n => (rd_T82 l (itN l j n)).f1
theorem itN_shift (l : List S82) : ∀ (j : Nat) (n : Int), itN l j (rd_T82 l n).f1 = itN l (j + 1) n
 | 0, n => rfl
 | j + 1, n => by show (rd_T82 l (itN l j (rd_T82 l n).f1)).f1 = _; rw [itN_shift l j n]; rfl
theorem ends_iff (l : List S82) : ∀ (d : Nat) (n : Int), endsN d l n = true ↔ ∃ j, j < d ∧ itN l j n = -1
 | 0, n => ⟨fun h => (Bool.false_ne_true h).elim, fun ⟨j, h, _⟩ => absurd h (Nat.not_lt_zero _)⟩
 | d + 1, n => by
  rw [endsN, Bool.or_eq_true, beq_iff_eq, ends_iff l d]
  constructor
  ·rintro (h | ⟨j, hj, h⟩)
   ·exact ⟨0, by omega, h⟩
   ·exact ⟨j + 1, by omega, by rw [← itN_shift]; exact h⟩
  ·rintro ⟨j, hj, h⟩
   cases j with
   | zero => exact .inl h
   | succ j => exact .inr ⟨j, by omega, by rw [itN_shift]; exact h⟩
theorem pigeon : ∀ (N D : Nat) (g : Nat → Nat), (∀ i, i < D → g i < N) → (∀ a b, a < b → b < D → g a ≠ g b) → D ≤ N
 | 0, D, g, h1, _ => by
  rcases Nat.eq_zero_or_pos D with h | h
  ·omega
  ·exact absurd (h1 0 h) (Nat.not_lt_zero _)
 | N + 1, D, g, h1, h2 => by
  by_cases hx : ∃ i, i < D ∧ g i = N
  ·obtain ⟨i, hi, hg⟩ := hx
   have := pigeon N (D - 1) (fun j => if j < i then g j else g (j + 1)) (fun j hj => by
    show (if j < i then g j else g (j + 1)) < N
    by_cases hji : j < i
    ·rw [if_pos hji]
     have h3 := h1 j (by omega)
     have h4 := h2 j i hji hi
     omega
    ·rw [if_neg hji]
     have h3 := h1 (j + 1) (by omega)
     have h4 := h2 i (j + 1) (by omega) (by omega)
     omega) (fun a b hab hb => by
    show (if a < i then g a else g (a + 1)) ≠ (if b < i then g b else g (b + 1))
    by_cases ha : a < i
    ·by_cases hb2 : b < i
     ·rw [if_pos ha, if_pos hb2]; exact h2 a b hab (by omega)
     ·rw [if_pos ha, if_neg hb2]; exact h2 a (b + 1) (by omega) (by omega)
    ·rw [if_neg ha, if_neg (by omega)]; exact h2 (a + 1) (b + 1) (by omega) (by omega))
   omega
  ·have := pigeon N D g (fun i hi => by
    have h3 := h1 i hi
    have h4 : g i ≠ N := fun e => hx ⟨i, hi, e⟩
    omega) h2
   omega
theorem ends_less (l : List S82) (hp : okPar l) (n : Int) (h0 : 0 ≤ n) (h1 : n < l.length) (D : Nat) (hD : l.length < D) (h : endsN (D + 1) l n = true) : endsN D l n = true := by
 cases hc : endsN D l n with
 | true => rfl
 | false =>
  exfalso
  have hno : ∀ j, j < D → itN l j n ≠ -1 := fun j hj e => by
   have := (ends_iff l D n).2 ⟨j, hj, e⟩
   rw [hc] at this
   cases this
  obtain ⟨j, hj, he⟩ := (ends_iff l (D + 1) n).1 h
  have hjD : j = D := by
   rcases Nat.lt_or_ge j D with h' | h'
   ·exact absurd he (hno j h')
   ·omega
  subst hjD
  have hin : ∀ i, i < j → 0 ≤ itN l i n ∧ itN l i n < l.length := by
   intro i
   induction i with
   | zero => intro _; exact ⟨h0, h1⟩
   | succ i ih =>
    intro hi
    have hb := ih (by omega)
    have hm := hp _ (rd82_mem l _ hb.1 hb.2)
    have hn := hno (i + 1) hi
    have e : itN l (i + 1) n = (rd_T82 l (itN l i n)).f1 := rfl
    rw [e] at hn ⊢
    omega
  have hper : ∀ a b m, itN l a n = itN l b n → itN l (a + m) n = itN l (b + m) n := by
   intro a b m hab
   induction m with
   | zero => exact hab
   | succ m ih => show (rd_T82 l (itN l (a + m) n)).f1 = (rd_T82 l (itN l (b + m) n)).f1; rw [ih]
  have := pigeon l.length j (fun i => (itN l i n).toNat) (fun i hi => by have := hin i hi; show (itN l i n).toNat < _; omega) (fun a b hab hb => by
   intro e
   have ha := hin a (by omega)
   have hb' := hin b hb
   have e2 : itN l a n = itN l b n := by
    have e3 : (itN l a n).toNat = (itN l b n).toNat := e
    omega
   have h3 := hper a b (j - b) e2
   rw [show b + (j - b) = j by omega, he] at h3
   exact hno (a + (j - b)) (by omega) h3)
  omega
theorem ends_more (l : List S82) (n : Int) (d : Nat) (e : Nat) (h : endsN d l n = true) (hde : d ≤ e) : endsN e l n = true := by
 obtain ⟨j, hj, he⟩ := (ends_iff l d n).1 h
 exact (ends_iff l e n).2 ⟨j, by omega, he⟩
theorem ends_19 (l : List S82) (hp : okPar l) (n : Int) (h0 : 0 ≤ n) (h1 : n < l.length) (hl : l.length ≤ 16) : endsN 19 l n = endsN (l.length + 1) l n := by
 have down : ∀ m, l.length + 1 + m ≤ 19 → endsN (l.length + 1 + m) l n = true → endsN (l.length + 1) l n = true := by
  intro m
  induction m with
  | zero => intro _ h; exact h
  | succ m ih => intro hm h; exact ih (by omega) (ends_less l hp n h0 h1 _ (by omega) h)
 rw [Bool.eq_iff_iff]
 exact ⟨fun h => down (18 - l.length) (by omega) (by rw [show l.length + 1 + (18 - l.length) = 19 by omega]; exact h), fun h => ends_more l n _ 19 h (by omega)⟩
/-! the program -/
def instsF (l : List S82) (t : List S91) (self : Int) : Bool := !decide (16 < (l.length : Int)) && (((self == -1) || livingB l self) && (l.all (fun x => instOk l x.f0 x.f1 x.f2 x.f3 t) && (List.range l.length).all (fun i => endsN (l.length + 1) l (i : Int))))
theorem rangeI_at (n i : Nat) (h : i < n) (p : Nat → Bool) : ((List.range n).drop i).all p = (p i && ((List.range n).drop (i + 1)).all p) := by
 rw [List.drop_eq_getElem_cons (by simpa using h), List.all_cons]
 simp
theorem rangeI_end (n i : Nat) (h : n ≤ i) (p : Nat → Bool) : ((List.range n).drop i).all p = true := by
 rw [List.drop_eq_nil_of_le (by simpa using h)]; rfl
section
variable (b0 b1 : List Int) (b2 : List S51) (b3 : List Int) (b4 : Int) (t : List S91) (b6 : Int) (l : List S82) (b8 : Int) (b9 : ByteArray)
theorem insts1_go (hl : l.length ≤ 16) (hp : okPar l) : ∀ (d k : Nat) (i : Int), 0 ≤ i → i + d = l.length → d + 1003 ≤ k → dict_instsRight.l1 k (l.length : Int) i b0 b1 b2 b3 b4 t b6 l b8 b9 = some (((List.range l.length).drop i.toNat).all (fun j => endsN (l.length + 1) l (j : Int)))
 | 0, k, i, h0, h1, hk => by
  obtain ⟨k, rfl⟩ : ∃ m, k = m + 1 := ⟨k - 1, by omega⟩
  rw [dict_instsRight.l1, if_neg (by omega), rangeI_end _ _ (by omega)]
 | d + 1, k, i, h0, h1, hk => by
  obtain ⟨k, rfl⟩ : ∃ m, k = m + 1 := ⟨k - 1, by omega⟩
  have hw : wrap64 (i + 1) = i + 1 := by unfold wrap64; omega
  rw [dict_instsRight.l1, if_pos (by omega), ends_eq l (by omega) hp i (by omega) (by omega) k (by omega), Option.bind_some, hw, insts1_go hl hp d k (i + 1) (by omega) (by omega) (by omega), rangeI_at _ i.toNat (by omega), show (i + 1).toNat = i.toNat + 1 by omega, show ((i.toNat : Nat) : Int) = i by omega]
  cases endsN (l.length + 1) l i with
  | true => rw [if_pos rfl]; rfl
  | false => rw [if_neg (by simp)]; rfl
theorem okPar_of (h : l.all (fun x => instOk l x.f0 x.f1 x.f2 x.f3 t) = true) : okPar l := fun x hx => by
 have := List.all_eq_true.1 h x hx
 unfold instOk livingB at this
 split at this
 ·simp only [Bool.and_eq_true, beq_iff_eq] at this
  have hp : 0 < l.length := List.length_pos_of_mem hx
  omega
 ·simp only [Bool.and_eq_true, Bool.or_eq_true, beq_iff_eq, decide_eq_true_eq] at this
  have hp : 0 < l.length := List.length_pos_of_mem hx
  rcases this.2.2.2.2.2 with h | h <;> omega
theorem insts0_go (hl : l.length ≤ 16) (R : Bool) (hR : l.all (fun x => instOk l x.f0 x.f1 x.f2 x.f3 t) = true → ∀ k, 1020 ≤ k → dict_instsRight.l1 k (l.length : Int) 0 b0 b1 b2 b3 b4 t b6 l b8 b9 = some R) :
  ∀ (d k : Nat) (i : Int), 0 ≤ i → i + d = l.length → (∀ j : Nat, j < i.toNat → (fun x : S82 => instOk l x.f0 x.f1 x.f2 x.f3 t) (l.getD j z82) = true) → d + 1021 ≤ k → dict_instsRight.l0 k l (l.length : Int) i b0 b1 b2 b3 b4 t b6 l b8 b9 = some ((l.drop i.toNat).all (fun x => instOk l x.f0 x.f1 x.f2 x.f3 t) && R)
 | 0, k, i, h0, h1, hz, hk => by
  obtain ⟨k, rfl⟩ : ∃ m, k = m + 1 := ⟨k - 1, by omega⟩
  rw [dict_instsRight.l0, if_neg (by omega), List.drop_eq_nil_of_le (by omega), hR ?_ k (by omega)]
  ·rfl
  ·rw [List.all_eq_true]
   intro x hx
   obtain ⟨j, hj, rfl⟩ := List.mem_iff_getElem.1 hx
   have := hz j (by omega)
   rw [List.getD_eq_getElem?_getD, List.getElem?_eq_getElem hj] at this
   exact this
 | d + 1, k, i, h0, h1, hz, hk => by
  obtain ⟨k, rfl⟩ : ∃ m, k = m + 1 := ⟨k - 1, by omega⟩
  have hw : wrap64 (i + 1) = i + 1 := by unfold wrap64; omega
  have hd : dict_instRight.f l (rd_T82 l i).f0 (rd_T82 l i).f1 (rd_T82 l i).f2 (rd_T82 l i).f3 t = some (instOk l (rd_T82 l i).f0 (rd_T82 l i).f1 (rd_T82 l i).f2 (rd_T82 l i).f3 t) := rfl
  rw [dict_instsRight.l0, if_pos (by omega), if_pos h0, if_pos (by omega), hd, Option.bind_some, hw, alls_at _ z82 l i h0 (by omega), show l.getD i.toNat z82 = rd_T82 l i from rfl]
  cases hv : instOk l (rd_T82 l i).f0 (rd_T82 l i).f1 (rd_T82 l i).f2 (rd_T82 l i).f3 t with
  | true =>
   rw [if_pos rfl, insts0_go hl R hR d k (i + 1) (by omega) (by omega) (fun j hj => by
    by_cases e : j = i.toNat
    ·subst e; exact hv
    ·exact hz j (by omega)) (by omega)]
   rfl
  | false => rw [if_neg (by simp)]; rfl
theorem insts_eq (k : Nat) (hk : 1100 ≤ k) : dict_instsRight.f k b0 b1 b2 b3 b4 t b6 l b8 b9 = some (instsF l t b8) := by
 obtain ⟨k, rfl⟩ : ∃ m, k = m + 1 := ⟨k - 1, by omega⟩
 unfold dict_instsRight.f instsF
 by_cases hl : (l.length : Int) > 16
 ·rw [if_pos hl, dict_instsRight.j0, if_pos rfl, decide_eq_true (show 16 < (l.length : Int) from hl)]; rfl
 ·have h0 : dict_instsRight.j0 (k + 1) false b0 b1 b2 b3 b4 t b6 l b8 b9 = some (l.all (fun x => instOk l x.f0 x.f1 x.f2 x.f3 t) && (List.range l.length).all (fun i => endsN (l.length + 1) l (i : Int))) := by
   rw [dict_instsRight.j0, if_neg (by simp), insts0_go b0 b1 b2 b3 b4 t b6 l b8 b9 (by omega) ((List.range l.length).all (fun i => endsN (l.length + 1) l (i : Int))) (fun h k hk => insts1_go b0 b1 b2 b3 b4 t b6 l b8 b9 (by omega) (okPar_of t l h) l.length k 0 (Int.le_refl _) (by omega) (by omega)) l.length k 0 (Int.le_refl _) (by omega) (fun j hj => absurd hj (by simp)) (by omega)]
   rfl
  rw [if_neg hl, decide_eq_false (show ¬ 16 < (l.length : Int) from hl)]
  by_cases hs : b8 = -1
  ·rw [if_pos hs, h0, beq_iff_eq.2 hs]; rfl
  ·rw [if_neg hs, living_eq, Option.bind_some, beq_eq_false_iff_ne.2 hs, Bool.false_or]
   cases livingB l b8 with
   | true => show dict_instsRight.j0 (k + 1) false b0 b1 b2 b3 b4 t b6 l b8 b9 = _; rw [h0]; rfl
   | false => show dict_instsRight.j0 (k + 1) true b0 b1 b2 b3 b4 t b6 l b8 b9 = _; rw [dict_instsRight.j0, if_pos rfl]; rfl
end
/-! the reference -/
def aliveB (l : List S82) (n : Int) : Bool := decide (0 ≤ n) && (decide (n < (l.length : Int)) && decide (0 ≤ (rd_T82 l n).f0))
theorem ralive_eq (l : List S82) (n : Int) : tinderref09_alive.f l n = some (aliveB l n) := by
 unfold tinderref09_alive.f aliveB
 by_cases h0 : n ≥ 0
 ·rw [if_pos h0, decide_eq_true (show 0 ≤ n from h0)]
  by_cases h1 : n < (l.length : Int)
  ·rw [if_pos h1, if_pos h0, decide_eq_true h1]; rfl
  ·rw [if_neg h1, decide_eq_false h1]; rfl
 ·rw [if_neg h0, decide_eq_false (show ¬ 0 ≤ n from h0)]; rfl
theorem slash_iff : ∀ l : List UInt8, 0 ≤ Lib.indexByte l 47 ↔ 47 ∈ l
 | [] => by simp [Lib.indexByte]
 | b :: l => by
  have ih := slash_iff l
  have hg := Lib.indexByte_ge l 47
  unfold Lib.indexByte
  by_cases hb : b = 47
  ·simp [hb]
  ·rw [if_neg (by simpa using hb), List.mem_cons]
   by_cases h : Lib.indexByte l 47 = -1
   ·rw [if_pos (by simpa using h)]
    have : ¬ 47 ∈ l := fun hm => by have := ih.2 hm; omega
    simp [this, Ne.symm hb]
   ·rw [if_neg (by simpa using h)]
    have : 47 ∈ l := ih.1 (by omega)
    simp only [this, or_true, iff_true]
    omega
theorem place_go (s : ByteArray) (hs : s.size ≤ 1000000) : ∀ (d k : Nat) (i : Int), 0 ≤ i → i + d = s.size → (∀ j : Nat, j < i.toNat → bt s (j : Int) ≠ 47) → d < k → ∃ p, tinderref07_Place.l0 k s i 47 = some p ∧ (p < (s.size : Int) ↔ ∃ j : Nat, j < s.size ∧ bt s (j : Int) = 47)
 | 0, k, i, h0, h1, hz, hk => by
  obtain ⟨k, rfl⟩ : ∃ m, k = m + 1 := ⟨k - 1, by omega⟩
  rw [tinderref07_Place.l0, if_neg (by omega)]
  exact ⟨i, rfl, fun h => by omega, fun ⟨j, hj, h⟩ => absurd h (hz j (by omega))⟩
 | d + 1, k, i, h0, h1, hz, hk => by
  obtain ⟨k, rfl⟩ : ∃ m, k = m + 1 := ⟨k - 1, by omega⟩
  have hw : wrap64 (i + 1) = i + 1 := by unfold wrap64; omega
  rw [tinderref07_Place.l0, if_pos (by omega), if_pos h0, hw]
  by_cases h : bt s i = 47
  ·rw [if_pos h]
   exact ⟨i, rfl, fun _ => ⟨i.toNat, by omega, by rw [show ((i.toNat : Nat) : Int) = i by omega]; exact h⟩, fun _ => by omega⟩
  ·rw [if_neg h]
   exact place_go s hs d k (i + 1) (by omega) (by omega) (fun j hj => by
    by_cases e : j = i.toNat
    ·subst e; rw [show ((i.toNat : Nat) : Int) = i by omega]; exact h
    ·exact hz j (by omega)) (by omega)
theorem place_eq (s : ByteArray) (hs : s.size ≤ 1000000) (k : Nat) (hk : s.size < k) : ∃ p, tinderref07_Place.f k s 0 47 = some p ∧ decide (p < (s.size : Int)) = hasSlash s := by
 obtain ⟨p, h1, h2⟩ := place_go s hs s.size k 0 (Int.le_refl _) (by omega) (fun j hj => absurd hj (by simp)) hk
 refine ⟨p, h1, ?_⟩
 unfold hasSlash
 rw [decide_eq_decide, h2, slash_iff]
 have e : ∀ (j : Nat) (h : j < s.size), bt s (j : Int) = ((s.data.toList[j]'(by rw [data_length]; exact h)).toNat : Int) := fun j h => by
  have := bt_at s (j : Int) (by simpa using h)
  rw [← this]
  rfl
 constructor
 ·rintro ⟨j, hj, h⟩
  rw [e j hj] at h
  have h3 : (s.data.toList[j]'(by rw [data_length]; exact hj)) = 47 := by
   apply UInt8.toNat.inj
   have : ((47 : UInt8).toNat : Int) = 47 := rfl
   omega
  rw [← h3]
  exact List.getElem_mem _
 ·intro h
  obtain ⟨j, hj, h3⟩ := List.mem_iff_getElem.1 h
  rw [data_length] at hj
  refine ⟨j, hj, ?_⟩
  rw [e j hj, h3]
  rfl
def instOkR (l : List S82) (a b : Int) (s : ByteArray) (cs : List Int) (t : List S91) : Bool :=
 if (a == -1) = true then (b == -1) && ((s.toList == ([] : List UInt8)) && ((cs.length : Int) == 0))
 else decide (0 ≤ a) && (decide (a < (t.length : Int)) && (((cs.length : Int) == ((rd_T91 t a).f4.length : Int)) && (decide ((s.size : Int) ≤ 256) && (!hasSlash s && ((b == -1) || aliveB l b)))))
theorem instsR_same (l : List S82) (t : List S91) : l.all (fun x => instOk l x.f0 x.f1 x.f2 x.f3 t) = l.all (fun x => instOkR l x.f0 x.f1 x.f2 x.f3 t) := by
 have key : (∀ x ∈ l, -1 ≤ x.f0) → ∀ x ∈ l, instOk l x.f0 x.f1 x.f2 x.f3 t = instOkR l x.f0 x.f1 x.f2 x.f3 t := fun h x hx => by
  have hl : livingB l x.f1 = aliveB l x.f1 := by
   unfold livingB aliveB
   by_cases h0 : 0 ≤ x.f1
   ·by_cases h1 : x.f1 < (l.length : Int)
    ·have h3 := h _ (rd82_mem l _ h0 h1)
     rw [decide_eq_true h0, decide_eq_true h1, Bool.true_and, Bool.true_and, Bool.true_and, Bool.true_and, Bool.eq_iff_iff, bne_iff_ne, decide_eq_true_eq]
     omega
    ·rw [decide_eq_false h1, Bool.false_and, Bool.false_and]
   ·rw [decide_eq_false h0, Bool.false_and, Bool.false_and]
  unfold instOk instOkR
  rw [hl]
 have nodeD : ∀ (a b : Int) (s : ByteArray) (cs : List Int), instOk l a b s cs t = true → -1 ≤ a := fun a b s cs h => by
  unfold instOk at h
  split at h
  ·rename_i e; rw [beq_iff_eq] at e; omega
  ·simp only [Bool.and_eq_true, decide_eq_true_eq] at h; omega
 have nodeR : ∀ (a b : Int) (s : ByteArray) (cs : List Int), instOkR l a b s cs t = true → -1 ≤ a := fun a b s cs h => by
  unfold instOkR at h
  split at h
  ·rename_i e; rw [beq_iff_eq] at e; omega
  ·simp only [Bool.and_eq_true, decide_eq_true_eq] at h; omega
 rw [Bool.eq_iff_iff, List.all_eq_true, List.all_eq_true]
 constructor
 ·intro h x hx
  rw [← key (fun y hy => nodeD _ _ _ _ (h y hy)) x hx]; exact h x hx
 ·intro h x hx
  rw [key (fun y hy => nodeR _ _ _ _ (h y hy)) x hx]; exact h x hx
theorem sameInst_none (x : S82) (k : Nat) (hk : 2 ≤ k) : tinderref09_SameInst.f k x.f0 x.f1 x.f2 x.f3 (-1) (-1) ⟨#[]⟩ [] = some ((x.f0 == -1) && ((x.f1 == -1) && ((x.f2.toList == ([] : List UInt8)) && ((x.f3.length : Int) == 0)))) := by
 obtain ⟨k, rfl⟩ : ∃ m, k = m + 1 := ⟨k - 1, by omega⟩
 have et : (⟨#[]⟩ : ByteArray).toList = ([] : List UInt8) := by rw [ByteArray.toList_eq]
 unfold tinderref09_SameInst.f
 by_cases h0 : x.f0 = -1
 ·rw [if_pos h0, beq_iff_eq.2 h0]
  by_cases h1 : x.f1 = -1
  ·rw [if_pos h1, beq_iff_eq.2 h1, et]
   by_cases h2 : x.f2.toList = ([] : List UInt8)
   ·rw [if_pos h2, beq_iff_eq.2 h2]
    unfold tinderref03_Same.f
    by_cases h3 : (x.f3.length : Int) = 0
    ·rw [if_pos (by simpa using h3), tinderref03_Same.l0, if_neg (by omega), beq_iff_eq.2 h3]; rfl
    ·rw [if_neg (by simpa using h3), beq_eq_false_iff_ne.2 h3]; rfl
   ·rw [if_neg h2, beq_eq_false_iff_ne.2 h2]; rfl
  ·rw [if_neg h1, beq_eq_false_iff_ne.2 h1]; rfl
 ·rw [if_neg h0, beq_eq_false_iff_ne.2 h0]; rfl
end Go.Proofs.Ytfpkakedlapmkaa.Q
end
section
namespace Go.Proofs.Ytfpkakedlapmkaa.Q
open Go.RowKit Go.Proofs.YtfpkakedlapmkaaW.PrintWords Go.Proofs.YtfpkakedlapmkaaW.PrintLast Go.Proofs.YtfpkakedlapmkaaW.PrintMore
set_option linter.unusedVariables false
set_option linter.unusedSimpArgs false

attribute [local go_sem] max2_int min2_int max_two min_two max_three min_three max_four min_four
/-! ### tinderref09_instsFormed: function 50 -/
mutual
def tinderref09_instsFormed.l0 : Nat → List (S82) → List (S91) → Int → Option (Bool)
 | 0, _, _, _ => none
 | k + 1, x0, x1, x5 => if x5 < (x0.length : Int) then (if 0 ≤ x5 then (if ((rd_T82 x0 x5).f0) = (-1) then ((tinderref09_SameInst.f k ((rd_T82 x0 x5).f0) ((rd_T82 x0 x5).f1) ((rd_T82 x0 x5).f2) ((rd_T82 x0 x5).f3) (-1) (-1) (⟨#[]⟩ : ByteArray) ([] : List Int)).bind fun t51003 => (if t51003 = true then (tinderref09_instsFormed.l0 k x0 x1 (wrap64 (x5 + 1))) else (some false))) else (if ((rd_T82 x0 x5).f0) < 0 then (tinderref09_instsFormed.j1 k x0 x1 x5 true ((rd_T82 x0 x5).f0) ((rd_T82 x0 x5).f1) ((rd_T82 x0 x5).f2) ((rd_T82 x0 x5).f3)) else (if ((rd_T82 x0 x5).f0) ≥ (x1.length : Int) then (tinderref09_instsFormed.j1 k x0 x1 x5 true ((rd_T82 x0 x5).f0) ((rd_T82 x0 x5).f1) ((rd_T82 x0 x5).f2) ((rd_T82 x0 x5).f3)) else (if 0 ≤ ((rd_T82 x0 x5).f0) then (if ((rd_T82 x0 x5).f0) < (x1.length : Int) then (if (((rd_T82 x0 x5).f3).length : Int) = (((rd_T91 x1 ((rd_T82 x0 x5).f0)).f4).length : Int) then (if (((rd_T82 x0 x5).f2).size : Int) > 256 then (tinderref09_instsFormed.j1 k x0 x1 x5 true ((rd_T82 x0 x5).f0) ((rd_T82 x0 x5).f1) ((rd_T82 x0 x5).f2) ((rd_T82 x0 x5).f3)) else ((tinderref07_Place.f k ((rd_T82 x0 x5).f2) 0 47).bind fun t51005 => (tinderref09_instsFormed.j1 k x0 x1 x5 (decide (t51005 < (((rd_T82 x0 x5).f2).size : Int))) ((rd_T82 x0 x5).f0) ((rd_T82 x0 x5).f1) ((rd_T82 x0 x5).f2) ((rd_T82 x0 x5).f3)))) else (tinderref09_instsFormed.j1 k x0 x1 x5 true ((rd_T82 x0 x5).f0) ((rd_T82 x0 x5).f1) ((rd_T82 x0 x5).f2) ((rd_T82 x0 x5).f3))) else (none)) else (none))))) else (none)) else (tinderref09_instsFormed.l1 k x0 0)
def tinderref09_instsFormed.j1 : Nat → List (S82) → List (S91) → Int → Bool → Int → Int → ByteArray → List Int → Option (Bool)
 | 0, _, _, _, _, _, _, _, _ => none
 | k + 1, x0, x1, x5, x67, x51003000, x51003001, x51003002, x51003003 => if x67 = true then (some false) else (if x51003001 = (-1) then (tinderref09_instsFormed.l0 k x0 x1 (wrap64 (x5 + 1))) else ((tinderref09_alive.f x0 x51003001).bind fun t51006 => (if t51006 = true then (tinderref09_instsFormed.l0 k x0 x1 (wrap64 (x5 + 1))) else (some false))))
def tinderref09_instsFormed.l1 : Nat → List (S82) → Int → Option (Bool)
 | 0, _, _ => none
 | k + 1, x0, x7 => if x7 < (x0.length : Int) then (if 0 ≤ x7 then (tinderref09_instsFormed.l2 k x0 x7 ((rd_T82 x0 x7).f1) 0) else (none)) else (some true)
def tinderref09_instsFormed.l2 : Nat → List (S82) → Int → Int → Int → Option (Bool)
 | 0, _, _, _, _ => none
 | k + 1, x0, x7, x8, x9 => if x8 ≥ 0 then (if x9 > 16 then (some false) else (if 0 ≤ x8 then (if x8 < (x0.length : Int) then (tinderref09_instsFormed.l2 k x0 x7 ((rd_T82 x0 x8).f1) (wrap64 (x9 + 1))) else (none)) else (none))) else (tinderref09_instsFormed.l1 k x0 (wrap64 (x7 + 1)))
end
def tinderref09_instsFormed.f (k : Nat) (l0 : List (S82)) (l1 : List (S91)) : Option (Bool) := if (l0.length : Int) > 16 then (some false) else (tinderref09_instsFormed.l0 k l0 l1 0)
def tinderref09_instsFormed.T10 : Bool × List (List Nat × List Nat) := (true, [([], []), ([0], [0]), ([1], [1]), ([2], [2]), ([3], [3]), ([4, 3], [3, 4]), ([3], [3]), ([6, 3], [3, 6]), ([5, 7, 3], [3, 5, 7]), ([3, 8], [3, 8]), ([9, 3], [9]), ([10], [10]), ([11, 10], [10, 11]), ([12, 10], [10, 12]), ([10], [10]), ([10], [10]), ([15, 10], [10, 15]), ([14, 16, 10], [10, 14, 16]), ([17, 10], [10, 17]), ([18, 10], [10, 18]), ([19, 10], [10, 19]), ([13, 20, 10], [10, 13, 20]), ([10, 21], [10, 21]), ([22, 10], [22]), ([23], [23]), ([24, 23], [23, 24]), ([25, 23], [23, 25]), ([26, 23], [23, 26]), ([23, 27], [23, 27]), ([28, 23], [28]), ([29], [29]), ([30, 29], [29, 30]), ([31, 29, 29], [29, 31]), ([29], [29]), ([33, 29], [29, 33]), ([34, 29], [29, 34]), ([32, 35, 29], [29, 32, 35]), ([29, 36], [29, 36])])
def tinderref09_instsFormed.B10 : List Nat := [0, 1, 3, 7, 15, 31, 15, 79, 255, 511, 1023, 2047, 4095, 8191, 2047, 2047, 34815, 116735, 247807, 509951, 1034239, 2097151, 4194303, 8388607, 16777215, 33554431, 67108863, 134217727, 268435455, 536870911, 1073741823, 2147483647, 4294967295, 1073741823, 9663676415, 26843545599, 68719476735, 137438953471]

end Go.Proofs.Ytfpkakedlapmkaa.Q
end
section
set_option linter.unusedSimpArgs false
set_option linter.unusedVariables false
namespace Go.Proofs.Ytfpkakedlapmkaa.Q
open Go.RowKit Go.Proofs.YtfpkakedlapmkaaW.PrintWords Go.Proofs.YtfpkakedlapmkaaW.PrintLast
section
variable (l : List S82) (t : List S91)
end
end Go.Proofs.Ytfpkakedlapmkaa.Q
end
section
set_option linter.unusedSimpArgs false
set_option linter.unusedVariables false
namespace Go.Proofs.Ytfpkakedlapmkaa.Q
open Go.RowKit Go.Proofs.YtfpkakedlapmkaaW.PrintWords Go.Proofs.YtfpkakedlapmkaaW.PrintLast
def wordsT (t : List S91) (l : List S51) : Bool := !decide (640 < l.length) && (!decide (l.length < 111) && (wordsF primsL l && !((l.drop 111).any (badW l.length t))))
theorem wordsAll_calls (A0 : Option Addr) (c0 : Nat) (l0 : List Int) (A1 : Option Addr) (c1 : Nat) (l1 : List Int) (A2 : Option Addr) (c2 : Nat) (l2 : List S51) (A3 : Option Addr) (c3 : Nat) (l3 : List Int) (a4 : Int) (A5 : Option Addr) (c5 : Nat) (l5 : List S91) (a6 : Int) (A7 : Option Addr) (c7 : Nat) (l7 : List S82) (a8 : Int) (a9 : ByteArray) (w : World) (hr0 : Kd.C (Kd.int .u32) w A0 l0.length l0) (hc0 : l0.length ≤ c0) (hr1 : Kd.C (Kd.int .u8) w A1 l1.length l1) (hc1 : l1.length ≤ c1) (hr2 : Kd.C k51 w A2 l2.length l2) (hc2 : l2.length ≤ c2) (hr3 : Kd.C (Kd.int .i64) w A3 l3.length l3) (hc3 : l3.length ≤ c3) (hr5 : Kd.C k91 w A5 l5.length l5) (hc5 : l5.length ≤ c5) (hr7 : Kd.C k82 w A7 l7.length l7) (hc7 : l7.length ≤ c7) :
  Calls Try.prog 47 #[.agg #[.slice A0 l0.length c0, .slice A1 l1.length c1, .slice A2 l2.length c2, .slice A3 l3.length c3, .int .u32 a4, .slice A5 l5.length c5, .int .i64 a6, .slice A7 l7.length c7, .int .i64 a8, .string a9]] w fun e w' => e = .returned (.bool (wordsT l5 l2)) ∧ Below w.heap.size w w' := by
 unfold wordsT
 by_cases h1 : 640 < l2.length
 ·rw [decide_eq_true h1]
  exact wordsShort_calls _ _ A2 c2 l2.length _ a4 _ a6 _ a8 a9 w (.inl h1)
 ·by_cases h2 : l2.length < 111
  ·rw [decide_eq_false h1, decide_eq_true h2]
   exact wordsShort_calls _ _ A2 c2 l2.length _ a4 _ a6 _ a8 a9 w (.inr h2)
  ·rw [decide_eq_false h1, decide_eq_false h2]
   obtain ⟨ad, rfl⟩ : ∃ ad, A2 = some ad := by
    obtain ⟨ad, _, _, hA, _⟩ := at_T51 hr2 0 (by omega) (by omega)
    exact ⟨ad, hA⟩
   have hcut := C_cut hr2 hc2 111 (l2.length - 111) (by omega)
   have e1 : (l2.drop 111).take (l2.length - 111) = l2.drop 111 := List.take_of_length_le (by rw [List.length_drop]; omega)
   have e2 : cutAt (some ad) c2 111 5 = (if c2 = 111 then some ad else some (ad.add 555)) := rfl
   have e3 : l2.length - 111 = (l2.drop 111).length := (List.length_drop).symm
   rw [e1, show (k51).sz = 5 from rfl, e2] at hcut
   exact wordsRight_calls primsL primsL_len prims_exact _ _ ad c2 l2 _ a4 _ a6 _ a8 a9 w hr2 (by omega) (by omega) hc2 ((l2.drop 111).any (badW l2.length l5)) (fun X hX hh => by
    have h := containsWord_calls w.heap.size (.slice A0 l0.length c0) (.slice A1 l1.length c1) (some ad) l2.length c2 (.slice A3 l3.length c3) a4 A5 l5 c5 a6 (.slice A7 l7.length c7) a8 a9 (if c2 = 111 then some ad else some (ad.add 555)) (c2 - 111) (l2.drop 111) X (by rw [← e3]; exact Kd.C_below hcut hX) hh (Kd.C_below hr5 hX) hc5
    rw [← e3] at h
    exact h)
def formedF (l0 l1 : List Int) (l2 : List S51) (l3 : List Int) (a4 : Int) (l5 : List S91) (a6 : Int) (l7 : List S82) (a8 : Int) (a9 : ByteArray) : Bool :=
 !decide (64 < (l0.length : Int)) && (!decide (4096 < (l1.length : Int)) && (!decide (1024 < (a9.size : Int)) && (!decide (2048 < (l3.length : Int)) && (!decide (a4 < 2) && (!decide (36 < a4) && (treeF l5 && (!decide (a6 < -1) && (!decide ((l5.length : Int) ≤ a6) && (instsF l7 l5 a8 && (wordsT l5 l2 && !(l3.any (wildB l2.length))))))))))))
set_option maxHeartbeats 8000000 in
set_option maxRecDepth 100000 in
theorem formed_calls (A0 : Option Addr) (c0 : Nat) (l0 : List Int) (A1 : Option Addr) (c1 : Nat) (l1 : List Int) (A2 : Option Addr) (c2 : Nat) (l2 : List S51) (A3 : Option Addr) (c3 : Nat) (l3 : List Int) (a4 : Int) (A5 : Option Addr) (c5 : Nat) (l5 : List S91) (a6 : Int) (A7 : Option Addr) (c7 : Nat) (l7 : List S82) (a8 : Int) (a9 : ByteArray) (w : World) (hr0 : Kd.C (Kd.int .u32) w A0 l0.length l0) (hc0 : l0.length ≤ c0) (hr1 : Kd.C (Kd.int .u8) w A1 l1.length l1) (hc1 : l1.length ≤ c1) (hr2 : Kd.C k51 w A2 l2.length l2) (hc2 : l2.length ≤ c2) (hr3 : Kd.C (Kd.int .i64) w A3 l3.length l3) (hc3 : l3.length ≤ c3) (hr5 : Kd.C k91 w A5 l5.length l5) (hc5 : l5.length ≤ c5) (hr7 : Kd.C k82 w A7 l7.length l7) (hc7 : l7.length ≤ c7) :
  Calls Try.prog 26 #[.agg #[.slice A0 l0.length c0, .slice A1 l1.length c1, .slice A2 l2.length c2, .slice A3 l3.length c3, .int .u32 a4, .slice A5 l5.length c5, .int .i64 a6, .slice A7 l7.length c7, .int .i64 a8, .string a9]] w fun e w' => e = .returned (.bool (formedF l0 l1 l2 l3 a4 l5 a6 l7 a8 a9)) ∧ Below w.heap.size w w' := by
 have hu32 := Try.underlying32
 have HTF := Aside0.mk (fun (X : World) (hX : Below w.heap.size w X) => treeFormed_calls A5 c5 l5 X (Kd.C_below hr5 hX) hc5)
 have HIN := Aside0.mk (fun (X : World) (hX : Below w.heap.size w X) => dict_instsRight.calls 1100 A0 c0 l0 A1 c1 l1 A2 c2 l2 A3 c3 l3 a4 A5 c5 l5 a6 A7 c7 l7 a8 a9 (instsF l7 l5 a8) X (Kd.C_below hr0 hX) hc0 (Kd.C_below hr1 hX) hc1 (Kd.C_below hr2 hX) hc2 (Kd.C_below hr3 hX) hc3 (Kd.C_below hr5 hX) hc5 (Kd.C_below hr7 hX) hc7 (insts_eq _ _ _ _ _ _ _ _ _ _ _ (Nat.le_refl _)))
 have HWR := Aside0.mk (fun (X : World) (hX : Below w.heap.size w X) => wordsAll_calls A0 c0 l0 A1 c1 l1 A2 c2 l2 A3 c3 l3 a4 A5 c5 l5 a6 A7 c7 l7 a8 a9 X (Kd.C_below hr0 hX) hc0 (Kd.C_below hr1 hX) hc1 (Kd.C_below hr2 hX) hc2 (Kd.C_below hr3 hX) hc3 (Kd.C_below hr5 hX) hc5 (Kd.C_below hr7 hX) hc7)
 have HCI := Aside0.mk (fun (X : World) (hX : Below w.heap.size w X) (hh : X.heap[w.heap.size]? = some (.cells #[.slice A0 l0.length c0, .slice A1 l1.length c1, .slice A2 l2.length c2, .slice A3 l3.length c3, .int .u32 a4, .slice A5 l5.length c5, .int .i64 a6, .slice A7 l7.length c7, .int .i64 a8, .string a9] 32 (0, 0))) => containsInt_calls w.heap.size (.slice A0 l0.length c0) (.slice A1 l1.length c1) A2 l2.length c2 (.slice A3 l3.length c3) a4 A5 l5 c5 a6 (.slice A7 l7.length c7) a8 a9 A3 c3 l3 X (Kd.C_below hr3 hX) hh)
 have HB := Aside0.mk (Below.refl w.heap.size w)
 have BK := Aside0.mk (blk_new w (.cells #[.slice A0 l0.length c0, .slice A1 l1.length c1, .slice A2 l2.length c2, .slice A3 l3.length c3, .int .u32 a4, .slice A5 l5.length c5, .int .i64 a6, .slice A7 l7.length c7, .int .i64 a8, .string a9] 32))
 clear hr0 hc0 hr1 hc1 hr2 hc2 hr3 hc3 hr5 hc5 hr7 hc7
 obtain ⟨r, hr⟩ : ∃ r, r = formedF l0 l1 l2 l3 a4 l5 a6 l7 a8 a9 := ⟨_, rfl⟩
 rw [← hr]
 have HR := Aside0.mk hr
 clear hr
 have HI := HR.out
 clear HR
 unfold formedF at HI
 generalize treeF l5 = tf at HTF HI
 generalize instsF l7 l5 a8 = ti at HIN HI
 generalize wordsT l5 l2 = tw at HWR HI
 generalize l3.any (wildB l2.length) = tc at HCI HI
 cases d1 : decide (64 < (l0.length : Int)) with
 | true =>
  simp only [d1, if_true, if_false, Bool.true_and, Bool.false_and, Bool.not_true, Bool.not_false, Bool.true_or, Bool.false_or, Bool.false_eq_true, Bool.and_true, Bool.and_false] at HI
  subst HI
  go_enter Try.func26, Try.ntmps26
  go_wp2
  go_ret
  exact ⟨rfl, by first | exact HB.out | exact below_alloc HB.out _⟩
 | false =>
  simp only [d1, if_true, if_false, Bool.true_and, Bool.false_and, Bool.not_true, Bool.not_false, Bool.true_or, Bool.false_or, Bool.false_eq_true, Bool.and_true, Bool.and_false] at HI
  cases d2 : decide (4096 < (l1.length : Int)) with
  | true =>
   simp only [d2, if_true, if_false, Bool.true_and, Bool.false_and, Bool.not_true, Bool.not_false, Bool.true_or, Bool.false_or, Bool.false_eq_true, Bool.and_true, Bool.and_false] at HI
   subst HI
   go_enter Try.func26, Try.ntmps26
   go_wp2
   go_ret
   exact ⟨rfl, by first | exact HB.out | exact below_alloc HB.out _⟩
  | false =>
   simp only [d2, if_true, if_false, Bool.true_and, Bool.false_and, Bool.not_true, Bool.not_false, Bool.true_or, Bool.false_or, Bool.false_eq_true, Bool.and_true, Bool.and_false] at HI
   cases d3 : decide (1024 < (a9.size : Int)) with
   | true =>
    simp only [d3, if_true, if_false, Bool.true_and, Bool.false_and, Bool.not_true, Bool.not_false, Bool.true_or, Bool.false_or, Bool.false_eq_true, Bool.and_true, Bool.and_false] at HI
    subst HI
    go_enter Try.func26, Try.ntmps26
    go_wp2
    go_ret
    exact ⟨rfl, by first | exact HB.out | exact below_alloc HB.out _⟩
   | false =>
    simp only [d3, if_true, if_false, Bool.true_and, Bool.false_and, Bool.not_true, Bool.not_false, Bool.true_or, Bool.false_or, Bool.false_eq_true, Bool.and_true, Bool.and_false] at HI
    cases d4 : decide (2048 < (l3.length : Int)) with
    | true =>
     simp only [d4, if_true, if_false, Bool.true_and, Bool.false_and, Bool.not_true, Bool.not_false, Bool.true_or, Bool.false_or, Bool.false_eq_true, Bool.and_true, Bool.and_false] at HI
     subst HI
     go_enter Try.func26, Try.ntmps26
     go_wp2
     go_ret
     exact ⟨rfl, by first | exact HB.out | exact below_alloc HB.out _⟩
    | false =>
     simp only [d4, if_true, if_false, Bool.true_and, Bool.false_and, Bool.not_true, Bool.not_false, Bool.true_or, Bool.false_or, Bool.false_eq_true, Bool.and_true, Bool.and_false] at HI
     cases e1 : decide (a4 < 2) with
     | true =>
      simp only [e1, if_true, if_false, Bool.true_and, Bool.false_and, Bool.not_true, Bool.not_false, Bool.true_or, Bool.false_or, Bool.false_eq_true, Bool.and_true, Bool.and_false] at HI
      subst HI
      go_enter Try.func26, Try.ntmps26
      go_wp2
      go_ret
      exact ⟨rfl, by first | exact HB.out | exact below_alloc HB.out _⟩
     | false =>
      simp only [e1, if_true, if_false, Bool.true_and, Bool.false_and, Bool.not_true, Bool.not_false, Bool.true_or, Bool.false_or, Bool.false_eq_true, Bool.and_true, Bool.and_false] at HI
      cases e2 : decide (36 < a4) with
      | true =>
       simp only [e2, if_true, if_false, Bool.true_and, Bool.false_and, Bool.not_true, Bool.not_false, Bool.true_or, Bool.false_or, Bool.false_eq_true, Bool.and_true, Bool.and_false] at HI
       subst HI
       go_enter Try.func26, Try.ntmps26
       go_wp2
       go_ret
       exact ⟨rfl, by first | exact HB.out | exact below_alloc HB.out _⟩
      | false =>
       simp only [e2, if_true, if_false, Bool.true_and, Bool.false_and, Bool.not_true, Bool.not_false, Bool.true_or, Bool.false_or, Bool.false_eq_true, Bool.and_true, Bool.and_false] at HI
       cases tf with
       | true =>
        simp only [if_true, if_false, Bool.true_and, Bool.false_and, Bool.not_true, Bool.not_false, Bool.true_or, Bool.false_or, Bool.false_eq_true, Bool.and_true, Bool.and_false] at HI
        cases e4 : decide (a6 < -1) with
        | true =>
         simp only [e4, if_true, if_false, Bool.true_and, Bool.false_and, Bool.not_true, Bool.not_false, Bool.true_or, Bool.false_or, Bool.false_eq_true, Bool.and_true, Bool.and_false] at HI
         subst HI
         go_enter Try.func26, Try.ntmps26
         go_wp2_with (first
          | (go_at_call 44; refine (HTF.out _ (below_alloc (Below.refl _ _) _)).mono ?_; rintro e w1 ⟨rfl, hb⟩; replace BK := Aside0.mk (blk_below BK.out hb); replace HB := Aside0.mk (below_step (below_alloc (Below.refl _ _) _) hb); clear hb; have z1_0 : w1.cell? ⟨w.heap.size, 0, none⟩ = some (.slice A0 l0.length c0) := (blk_cell BK.out 0).trans rfl; have z1_1 : w1.cell? ⟨w.heap.size, 1, none⟩ = some (.slice A1 l1.length c1) := (blk_cell BK.out 1).trans rfl; have z1_2 : w1.cell? ⟨w.heap.size, 2, none⟩ = some (.slice A2 l2.length c2) := (blk_cell BK.out 2).trans rfl; have z1_3 : w1.cell? ⟨w.heap.size, 3, none⟩ = some (.slice A3 l3.length c3) := (blk_cell BK.out 3).trans rfl; have z1_4 : w1.cell? ⟨w.heap.size, 4, none⟩ = some (.int .u32 a4) := (blk_cell BK.out 4).trans rfl; have z1_5 : w1.cell? ⟨w.heap.size, 5, none⟩ = some (.slice A5 l5.length c5) := (blk_cell BK.out 5).trans rfl; have z1_6 : w1.cell? ⟨w.heap.size, 6, none⟩ = some (.int .i64 a6) := (blk_cell BK.out 6).trans rfl; have z1_7 : w1.cell? ⟨w.heap.size, 7, none⟩ = some (.slice A7 l7.length c7) := (blk_cell BK.out 7).trans rfl; have z1_8 : w1.cell? ⟨w.heap.size, 8, none⟩ = some (.int .i64 a8) := (blk_cell BK.out 8).trans rfl; have z1_9 : w1.cell? ⟨w.heap.size, 9, none⟩ = some (.string a9) := (blk_cell BK.out 9).trans rfl))
         go_ret
         exact ⟨rfl, by first | exact HB.out | exact below_alloc HB.out _⟩
        | false =>
         simp only [e4, if_true, if_false, Bool.true_and, Bool.false_and, Bool.not_true, Bool.not_false, Bool.true_or, Bool.false_or, Bool.false_eq_true, Bool.and_true, Bool.and_false] at HI
         cases e5 : decide ((l5.length : Int) ≤ a6) with
         | true =>
          simp only [e5, if_true, if_false, Bool.true_and, Bool.false_and, Bool.not_true, Bool.not_false, Bool.true_or, Bool.false_or, Bool.false_eq_true, Bool.and_true, Bool.and_false] at HI
          subst HI
          go_enter Try.func26, Try.ntmps26
          go_wp2_with (first
           | (go_at_call 44; refine (HTF.out _ (below_alloc (Below.refl _ _) _)).mono ?_; rintro e w1 ⟨rfl, hb⟩; replace BK := Aside0.mk (blk_below BK.out hb); replace HB := Aside0.mk (below_step (below_alloc (Below.refl _ _) _) hb); clear hb; have z1_0 : w1.cell? ⟨w.heap.size, 0, none⟩ = some (.slice A0 l0.length c0) := (blk_cell BK.out 0).trans rfl; have z1_1 : w1.cell? ⟨w.heap.size, 1, none⟩ = some (.slice A1 l1.length c1) := (blk_cell BK.out 1).trans rfl; have z1_2 : w1.cell? ⟨w.heap.size, 2, none⟩ = some (.slice A2 l2.length c2) := (blk_cell BK.out 2).trans rfl; have z1_3 : w1.cell? ⟨w.heap.size, 3, none⟩ = some (.slice A3 l3.length c3) := (blk_cell BK.out 3).trans rfl; have z1_4 : w1.cell? ⟨w.heap.size, 4, none⟩ = some (.int .u32 a4) := (blk_cell BK.out 4).trans rfl; have z1_5 : w1.cell? ⟨w.heap.size, 5, none⟩ = some (.slice A5 l5.length c5) := (blk_cell BK.out 5).trans rfl; have z1_6 : w1.cell? ⟨w.heap.size, 6, none⟩ = some (.int .i64 a6) := (blk_cell BK.out 6).trans rfl; have z1_7 : w1.cell? ⟨w.heap.size, 7, none⟩ = some (.slice A7 l7.length c7) := (blk_cell BK.out 7).trans rfl; have z1_8 : w1.cell? ⟨w.heap.size, 8, none⟩ = some (.int .i64 a8) := (blk_cell BK.out 8).trans rfl; have z1_9 : w1.cell? ⟨w.heap.size, 9, none⟩ = some (.string a9) := (blk_cell BK.out 9).trans rfl))
          go_ret
          exact ⟨rfl, by first | exact HB.out | exact below_alloc HB.out _⟩
         | false =>
          simp only [e5, if_true, if_false, Bool.true_and, Bool.false_and, Bool.not_true, Bool.not_false, Bool.true_or, Bool.false_or, Bool.false_eq_true, Bool.and_true, Bool.and_false] at HI
          cases ti with
          | true =>
           simp only [if_true, if_false, Bool.true_and, Bool.false_and, Bool.not_true, Bool.not_false, Bool.true_or, Bool.false_or, Bool.false_eq_true, Bool.and_true, Bool.and_false] at HI
           cases tw with
           | true =>
            simp only [if_true, if_false, Bool.true_and, Bool.false_and, Bool.not_true, Bool.not_false, Bool.true_or, Bool.false_or, Bool.false_eq_true, Bool.and_true, Bool.and_false] at HI
            cases tc with
            | true =>
             simp only [if_true, if_false, Bool.true_and, Bool.false_and, Bool.not_true, Bool.not_false, Bool.true_or, Bool.false_or, Bool.false_eq_true, Bool.and_true, Bool.and_false] at HI
             subst HI
             go_enter Try.func26, Try.ntmps26
             go_wp2_with (first
              | (go_at_call 44; refine (HTF.out _ (below_alloc (Below.refl _ _) _)).mono ?_; rintro e w1 ⟨rfl, hb⟩; replace BK := Aside0.mk (blk_below BK.out hb); replace HB := Aside0.mk (below_step (below_alloc (Below.refl _ _) _) hb); clear hb; have z1_0 : w1.cell? ⟨w.heap.size, 0, none⟩ = some (.slice A0 l0.length c0) := (blk_cell BK.out 0).trans rfl; have z1_1 : w1.cell? ⟨w.heap.size, 1, none⟩ = some (.slice A1 l1.length c1) := (blk_cell BK.out 1).trans rfl; have z1_2 : w1.cell? ⟨w.heap.size, 2, none⟩ = some (.slice A2 l2.length c2) := (blk_cell BK.out 2).trans rfl; have z1_3 : w1.cell? ⟨w.heap.size, 3, none⟩ = some (.slice A3 l3.length c3) := (blk_cell BK.out 3).trans rfl; have z1_4 : w1.cell? ⟨w.heap.size, 4, none⟩ = some (.int .u32 a4) := (blk_cell BK.out 4).trans rfl; have z1_5 : w1.cell? ⟨w.heap.size, 5, none⟩ = some (.slice A5 l5.length c5) := (blk_cell BK.out 5).trans rfl; have z1_6 : w1.cell? ⟨w.heap.size, 6, none⟩ = some (.int .i64 a6) := (blk_cell BK.out 6).trans rfl; have z1_7 : w1.cell? ⟨w.heap.size, 7, none⟩ = some (.slice A7 l7.length c7) := (blk_cell BK.out 7).trans rfl; have z1_8 : w1.cell? ⟨w.heap.size, 8, none⟩ = some (.int .i64 a8) := (blk_cell BK.out 8).trans rfl; have z1_9 : w1.cell? ⟨w.heap.size, 9, none⟩ = some (.string a9) := (blk_cell BK.out 9).trans rfl)
              | (go_at_call 46; refine (HIN.out _ HB.out).mono ?_; rintro e w2 ⟨rfl, hb⟩; replace BK := Aside0.mk (blk_below BK.out hb); replace HB := Aside0.mk (below_step HB.out hb); clear hb; have z2_0 : w2.cell? ⟨w.heap.size, 0, none⟩ = some (.slice A0 l0.length c0) := (blk_cell BK.out 0).trans rfl; have z2_1 : w2.cell? ⟨w.heap.size, 1, none⟩ = some (.slice A1 l1.length c1) := (blk_cell BK.out 1).trans rfl; have z2_2 : w2.cell? ⟨w.heap.size, 2, none⟩ = some (.slice A2 l2.length c2) := (blk_cell BK.out 2).trans rfl; have z2_3 : w2.cell? ⟨w.heap.size, 3, none⟩ = some (.slice A3 l3.length c3) := (blk_cell BK.out 3).trans rfl; have z2_4 : w2.cell? ⟨w.heap.size, 4, none⟩ = some (.int .u32 a4) := (blk_cell BK.out 4).trans rfl; have z2_5 : w2.cell? ⟨w.heap.size, 5, none⟩ = some (.slice A5 l5.length c5) := (blk_cell BK.out 5).trans rfl; have z2_6 : w2.cell? ⟨w.heap.size, 6, none⟩ = some (.int .i64 a6) := (blk_cell BK.out 6).trans rfl; have z2_7 : w2.cell? ⟨w.heap.size, 7, none⟩ = some (.slice A7 l7.length c7) := (blk_cell BK.out 7).trans rfl; have z2_8 : w2.cell? ⟨w.heap.size, 8, none⟩ = some (.int .i64 a8) := (blk_cell BK.out 8).trans rfl; have z2_9 : w2.cell? ⟨w.heap.size, 9, none⟩ = some (.string a9) := (blk_cell BK.out 9).trans rfl)
              | (go_at_call 47; refine (HWR.out _ HB.out).mono ?_; rintro e w3 ⟨rfl, hb⟩; replace BK := Aside0.mk (blk_below BK.out hb); replace HB := Aside0.mk (below_step HB.out hb); clear hb; have z3_0 : w3.cell? ⟨w.heap.size, 0, none⟩ = some (.slice A0 l0.length c0) := (blk_cell BK.out 0).trans rfl; have z3_1 : w3.cell? ⟨w.heap.size, 1, none⟩ = some (.slice A1 l1.length c1) := (blk_cell BK.out 1).trans rfl; have z3_2 : w3.cell? ⟨w.heap.size, 2, none⟩ = some (.slice A2 l2.length c2) := (blk_cell BK.out 2).trans rfl; have z3_3 : w3.cell? ⟨w.heap.size, 3, none⟩ = some (.slice A3 l3.length c3) := (blk_cell BK.out 3).trans rfl; have z3_4 : w3.cell? ⟨w.heap.size, 4, none⟩ = some (.int .u32 a4) := (blk_cell BK.out 4).trans rfl; have z3_5 : w3.cell? ⟨w.heap.size, 5, none⟩ = some (.slice A5 l5.length c5) := (blk_cell BK.out 5).trans rfl; have z3_6 : w3.cell? ⟨w.heap.size, 6, none⟩ = some (.int .i64 a6) := (blk_cell BK.out 6).trans rfl; have z3_7 : w3.cell? ⟨w.heap.size, 7, none⟩ = some (.slice A7 l7.length c7) := (blk_cell BK.out 7).trans rfl; have z3_8 : w3.cell? ⟨w.heap.size, 8, none⟩ = some (.int .i64 a8) := (blk_cell BK.out 8).trans rfl; have z3_9 : w3.cell? ⟨w.heap.size, 9, none⟩ = some (.string a9) := (blk_cell BK.out 9).trans rfl)
              | (go_at_call 48; refine (HCI.out _ HB.out BK.out).mono ?_; rintro e w4 ⟨rfl, hb⟩; replace HB := Aside0.mk (below_step HB.out hb); clear hb))
             go_ret
             exact ⟨rfl, by first | exact HB.out | exact below_alloc HB.out _⟩
            | false =>
             simp only [if_true, if_false, Bool.true_and, Bool.false_and, Bool.not_true, Bool.not_false, Bool.true_or, Bool.false_or, Bool.false_eq_true, Bool.and_true, Bool.and_false] at HI
             subst HI
             go_enter Try.func26, Try.ntmps26
             go_wp2_with (first
              | (go_at_call 44; refine (HTF.out _ (below_alloc (Below.refl _ _) _)).mono ?_; rintro e w1 ⟨rfl, hb⟩; replace BK := Aside0.mk (blk_below BK.out hb); replace HB := Aside0.mk (below_step (below_alloc (Below.refl _ _) _) hb); clear hb; have z1_0 : w1.cell? ⟨w.heap.size, 0, none⟩ = some (.slice A0 l0.length c0) := (blk_cell BK.out 0).trans rfl; have z1_1 : w1.cell? ⟨w.heap.size, 1, none⟩ = some (.slice A1 l1.length c1) := (blk_cell BK.out 1).trans rfl; have z1_2 : w1.cell? ⟨w.heap.size, 2, none⟩ = some (.slice A2 l2.length c2) := (blk_cell BK.out 2).trans rfl; have z1_3 : w1.cell? ⟨w.heap.size, 3, none⟩ = some (.slice A3 l3.length c3) := (blk_cell BK.out 3).trans rfl; have z1_4 : w1.cell? ⟨w.heap.size, 4, none⟩ = some (.int .u32 a4) := (blk_cell BK.out 4).trans rfl; have z1_5 : w1.cell? ⟨w.heap.size, 5, none⟩ = some (.slice A5 l5.length c5) := (blk_cell BK.out 5).trans rfl; have z1_6 : w1.cell? ⟨w.heap.size, 6, none⟩ = some (.int .i64 a6) := (blk_cell BK.out 6).trans rfl; have z1_7 : w1.cell? ⟨w.heap.size, 7, none⟩ = some (.slice A7 l7.length c7) := (blk_cell BK.out 7).trans rfl; have z1_8 : w1.cell? ⟨w.heap.size, 8, none⟩ = some (.int .i64 a8) := (blk_cell BK.out 8).trans rfl; have z1_9 : w1.cell? ⟨w.heap.size, 9, none⟩ = some (.string a9) := (blk_cell BK.out 9).trans rfl)
              | (go_at_call 46; refine (HIN.out _ HB.out).mono ?_; rintro e w2 ⟨rfl, hb⟩; replace BK := Aside0.mk (blk_below BK.out hb); replace HB := Aside0.mk (below_step HB.out hb); clear hb; have z2_0 : w2.cell? ⟨w.heap.size, 0, none⟩ = some (.slice A0 l0.length c0) := (blk_cell BK.out 0).trans rfl; have z2_1 : w2.cell? ⟨w.heap.size, 1, none⟩ = some (.slice A1 l1.length c1) := (blk_cell BK.out 1).trans rfl; have z2_2 : w2.cell? ⟨w.heap.size, 2, none⟩ = some (.slice A2 l2.length c2) := (blk_cell BK.out 2).trans rfl; have z2_3 : w2.cell? ⟨w.heap.size, 3, none⟩ = some (.slice A3 l3.length c3) := (blk_cell BK.out 3).trans rfl; have z2_4 : w2.cell? ⟨w.heap.size, 4, none⟩ = some (.int .u32 a4) := (blk_cell BK.out 4).trans rfl; have z2_5 : w2.cell? ⟨w.heap.size, 5, none⟩ = some (.slice A5 l5.length c5) := (blk_cell BK.out 5).trans rfl; have z2_6 : w2.cell? ⟨w.heap.size, 6, none⟩ = some (.int .i64 a6) := (blk_cell BK.out 6).trans rfl; have z2_7 : w2.cell? ⟨w.heap.size, 7, none⟩ = some (.slice A7 l7.length c7) := (blk_cell BK.out 7).trans rfl; have z2_8 : w2.cell? ⟨w.heap.size, 8, none⟩ = some (.int .i64 a8) := (blk_cell BK.out 8).trans rfl; have z2_9 : w2.cell? ⟨w.heap.size, 9, none⟩ = some (.string a9) := (blk_cell BK.out 9).trans rfl)
              | (go_at_call 47; refine (HWR.out _ HB.out).mono ?_; rintro e w3 ⟨rfl, hb⟩; replace BK := Aside0.mk (blk_below BK.out hb); replace HB := Aside0.mk (below_step HB.out hb); clear hb; have z3_0 : w3.cell? ⟨w.heap.size, 0, none⟩ = some (.slice A0 l0.length c0) := (blk_cell BK.out 0).trans rfl; have z3_1 : w3.cell? ⟨w.heap.size, 1, none⟩ = some (.slice A1 l1.length c1) := (blk_cell BK.out 1).trans rfl; have z3_2 : w3.cell? ⟨w.heap.size, 2, none⟩ = some (.slice A2 l2.length c2) := (blk_cell BK.out 2).trans rfl; have z3_3 : w3.cell? ⟨w.heap.size, 3, none⟩ = some (.slice A3 l3.length c3) := (blk_cell BK.out 3).trans rfl; have z3_4 : w3.cell? ⟨w.heap.size, 4, none⟩ = some (.int .u32 a4) := (blk_cell BK.out 4).trans rfl; have z3_5 : w3.cell? ⟨w.heap.size, 5, none⟩ = some (.slice A5 l5.length c5) := (blk_cell BK.out 5).trans rfl; have z3_6 : w3.cell? ⟨w.heap.size, 6, none⟩ = some (.int .i64 a6) := (blk_cell BK.out 6).trans rfl; have z3_7 : w3.cell? ⟨w.heap.size, 7, none⟩ = some (.slice A7 l7.length c7) := (blk_cell BK.out 7).trans rfl; have z3_8 : w3.cell? ⟨w.heap.size, 8, none⟩ = some (.int .i64 a8) := (blk_cell BK.out 8).trans rfl; have z3_9 : w3.cell? ⟨w.heap.size, 9, none⟩ = some (.string a9) := (blk_cell BK.out 9).trans rfl)
              | (go_at_call 48; refine (HCI.out _ HB.out BK.out).mono ?_; rintro e w4 ⟨rfl, hb⟩; replace HB := Aside0.mk (below_step HB.out hb); clear hb))
             go_ret
             exact ⟨rfl, by first | exact HB.out | exact below_alloc HB.out _⟩
           | false =>
            simp only [if_true, if_false, Bool.true_and, Bool.false_and, Bool.not_true, Bool.not_false, Bool.true_or, Bool.false_or, Bool.false_eq_true, Bool.and_true, Bool.and_false] at HI
            subst HI
            go_enter Try.func26, Try.ntmps26
            go_wp2_with (first
             | (go_at_call 44; refine (HTF.out _ (below_alloc (Below.refl _ _) _)).mono ?_; rintro e w1 ⟨rfl, hb⟩; replace BK := Aside0.mk (blk_below BK.out hb); replace HB := Aside0.mk (below_step (below_alloc (Below.refl _ _) _) hb); clear hb; have z1_0 : w1.cell? ⟨w.heap.size, 0, none⟩ = some (.slice A0 l0.length c0) := (blk_cell BK.out 0).trans rfl; have z1_1 : w1.cell? ⟨w.heap.size, 1, none⟩ = some (.slice A1 l1.length c1) := (blk_cell BK.out 1).trans rfl; have z1_2 : w1.cell? ⟨w.heap.size, 2, none⟩ = some (.slice A2 l2.length c2) := (blk_cell BK.out 2).trans rfl; have z1_3 : w1.cell? ⟨w.heap.size, 3, none⟩ = some (.slice A3 l3.length c3) := (blk_cell BK.out 3).trans rfl; have z1_4 : w1.cell? ⟨w.heap.size, 4, none⟩ = some (.int .u32 a4) := (blk_cell BK.out 4).trans rfl; have z1_5 : w1.cell? ⟨w.heap.size, 5, none⟩ = some (.slice A5 l5.length c5) := (blk_cell BK.out 5).trans rfl; have z1_6 : w1.cell? ⟨w.heap.size, 6, none⟩ = some (.int .i64 a6) := (blk_cell BK.out 6).trans rfl; have z1_7 : w1.cell? ⟨w.heap.size, 7, none⟩ = some (.slice A7 l7.length c7) := (blk_cell BK.out 7).trans rfl; have z1_8 : w1.cell? ⟨w.heap.size, 8, none⟩ = some (.int .i64 a8) := (blk_cell BK.out 8).trans rfl; have z1_9 : w1.cell? ⟨w.heap.size, 9, none⟩ = some (.string a9) := (blk_cell BK.out 9).trans rfl)
             | (go_at_call 46; refine (HIN.out _ HB.out).mono ?_; rintro e w2 ⟨rfl, hb⟩; replace BK := Aside0.mk (blk_below BK.out hb); replace HB := Aside0.mk (below_step HB.out hb); clear hb; have z2_0 : w2.cell? ⟨w.heap.size, 0, none⟩ = some (.slice A0 l0.length c0) := (blk_cell BK.out 0).trans rfl; have z2_1 : w2.cell? ⟨w.heap.size, 1, none⟩ = some (.slice A1 l1.length c1) := (blk_cell BK.out 1).trans rfl; have z2_2 : w2.cell? ⟨w.heap.size, 2, none⟩ = some (.slice A2 l2.length c2) := (blk_cell BK.out 2).trans rfl; have z2_3 : w2.cell? ⟨w.heap.size, 3, none⟩ = some (.slice A3 l3.length c3) := (blk_cell BK.out 3).trans rfl; have z2_4 : w2.cell? ⟨w.heap.size, 4, none⟩ = some (.int .u32 a4) := (blk_cell BK.out 4).trans rfl; have z2_5 : w2.cell? ⟨w.heap.size, 5, none⟩ = some (.slice A5 l5.length c5) := (blk_cell BK.out 5).trans rfl; have z2_6 : w2.cell? ⟨w.heap.size, 6, none⟩ = some (.int .i64 a6) := (blk_cell BK.out 6).trans rfl; have z2_7 : w2.cell? ⟨w.heap.size, 7, none⟩ = some (.slice A7 l7.length c7) := (blk_cell BK.out 7).trans rfl; have z2_8 : w2.cell? ⟨w.heap.size, 8, none⟩ = some (.int .i64 a8) := (blk_cell BK.out 8).trans rfl; have z2_9 : w2.cell? ⟨w.heap.size, 9, none⟩ = some (.string a9) := (blk_cell BK.out 9).trans rfl)
             | (go_at_call 47; refine (HWR.out _ HB.out).mono ?_; rintro e w3 ⟨rfl, hb⟩; replace BK := Aside0.mk (blk_below BK.out hb); replace HB := Aside0.mk (below_step HB.out hb); clear hb; have z3_0 : w3.cell? ⟨w.heap.size, 0, none⟩ = some (.slice A0 l0.length c0) := (blk_cell BK.out 0).trans rfl; have z3_1 : w3.cell? ⟨w.heap.size, 1, none⟩ = some (.slice A1 l1.length c1) := (blk_cell BK.out 1).trans rfl; have z3_2 : w3.cell? ⟨w.heap.size, 2, none⟩ = some (.slice A2 l2.length c2) := (blk_cell BK.out 2).trans rfl; have z3_3 : w3.cell? ⟨w.heap.size, 3, none⟩ = some (.slice A3 l3.length c3) := (blk_cell BK.out 3).trans rfl; have z3_4 : w3.cell? ⟨w.heap.size, 4, none⟩ = some (.int .u32 a4) := (blk_cell BK.out 4).trans rfl; have z3_5 : w3.cell? ⟨w.heap.size, 5, none⟩ = some (.slice A5 l5.length c5) := (blk_cell BK.out 5).trans rfl; have z3_6 : w3.cell? ⟨w.heap.size, 6, none⟩ = some (.int .i64 a6) := (blk_cell BK.out 6).trans rfl; have z3_7 : w3.cell? ⟨w.heap.size, 7, none⟩ = some (.slice A7 l7.length c7) := (blk_cell BK.out 7).trans rfl; have z3_8 : w3.cell? ⟨w.heap.size, 8, none⟩ = some (.int .i64 a8) := (blk_cell BK.out 8).trans rfl; have z3_9 : w3.cell? ⟨w.heap.size, 9, none⟩ = some (.string a9) := (blk_cell BK.out 9).trans rfl))
            go_ret
            exact ⟨rfl, by first | exact HB.out | exact below_alloc HB.out _⟩
          | false =>
           simp only [if_true, if_false, Bool.true_and, Bool.false_and, Bool.not_true, Bool.not_false, Bool.true_or, Bool.false_or, Bool.false_eq_true, Bool.and_true, Bool.and_false] at HI
           subst HI
           go_enter Try.func26, Try.ntmps26
           go_wp2_with (first
            | (go_at_call 44; refine (HTF.out _ (below_alloc (Below.refl _ _) _)).mono ?_; rintro e w1 ⟨rfl, hb⟩; replace BK := Aside0.mk (blk_below BK.out hb); replace HB := Aside0.mk (below_step (below_alloc (Below.refl _ _) _) hb); clear hb; have z1_0 : w1.cell? ⟨w.heap.size, 0, none⟩ = some (.slice A0 l0.length c0) := (blk_cell BK.out 0).trans rfl; have z1_1 : w1.cell? ⟨w.heap.size, 1, none⟩ = some (.slice A1 l1.length c1) := (blk_cell BK.out 1).trans rfl; have z1_2 : w1.cell? ⟨w.heap.size, 2, none⟩ = some (.slice A2 l2.length c2) := (blk_cell BK.out 2).trans rfl; have z1_3 : w1.cell? ⟨w.heap.size, 3, none⟩ = some (.slice A3 l3.length c3) := (blk_cell BK.out 3).trans rfl; have z1_4 : w1.cell? ⟨w.heap.size, 4, none⟩ = some (.int .u32 a4) := (blk_cell BK.out 4).trans rfl; have z1_5 : w1.cell? ⟨w.heap.size, 5, none⟩ = some (.slice A5 l5.length c5) := (blk_cell BK.out 5).trans rfl; have z1_6 : w1.cell? ⟨w.heap.size, 6, none⟩ = some (.int .i64 a6) := (blk_cell BK.out 6).trans rfl; have z1_7 : w1.cell? ⟨w.heap.size, 7, none⟩ = some (.slice A7 l7.length c7) := (blk_cell BK.out 7).trans rfl; have z1_8 : w1.cell? ⟨w.heap.size, 8, none⟩ = some (.int .i64 a8) := (blk_cell BK.out 8).trans rfl; have z1_9 : w1.cell? ⟨w.heap.size, 9, none⟩ = some (.string a9) := (blk_cell BK.out 9).trans rfl)
            | (go_at_call 46; refine (HIN.out _ HB.out).mono ?_; rintro e w2 ⟨rfl, hb⟩; replace BK := Aside0.mk (blk_below BK.out hb); replace HB := Aside0.mk (below_step HB.out hb); clear hb; have z2_0 : w2.cell? ⟨w.heap.size, 0, none⟩ = some (.slice A0 l0.length c0) := (blk_cell BK.out 0).trans rfl; have z2_1 : w2.cell? ⟨w.heap.size, 1, none⟩ = some (.slice A1 l1.length c1) := (blk_cell BK.out 1).trans rfl; have z2_2 : w2.cell? ⟨w.heap.size, 2, none⟩ = some (.slice A2 l2.length c2) := (blk_cell BK.out 2).trans rfl; have z2_3 : w2.cell? ⟨w.heap.size, 3, none⟩ = some (.slice A3 l3.length c3) := (blk_cell BK.out 3).trans rfl; have z2_4 : w2.cell? ⟨w.heap.size, 4, none⟩ = some (.int .u32 a4) := (blk_cell BK.out 4).trans rfl; have z2_5 : w2.cell? ⟨w.heap.size, 5, none⟩ = some (.slice A5 l5.length c5) := (blk_cell BK.out 5).trans rfl; have z2_6 : w2.cell? ⟨w.heap.size, 6, none⟩ = some (.int .i64 a6) := (blk_cell BK.out 6).trans rfl; have z2_7 : w2.cell? ⟨w.heap.size, 7, none⟩ = some (.slice A7 l7.length c7) := (blk_cell BK.out 7).trans rfl; have z2_8 : w2.cell? ⟨w.heap.size, 8, none⟩ = some (.int .i64 a8) := (blk_cell BK.out 8).trans rfl; have z2_9 : w2.cell? ⟨w.heap.size, 9, none⟩ = some (.string a9) := (blk_cell BK.out 9).trans rfl))
           go_ret
           exact ⟨rfl, by first | exact HB.out | exact below_alloc HB.out _⟩
       | false =>
        simp only [if_true, if_false, Bool.true_and, Bool.false_and, Bool.not_true, Bool.not_false, Bool.true_or, Bool.false_or, Bool.false_eq_true, Bool.and_true, Bool.and_false] at HI
        subst HI
        go_enter Try.func26, Try.ntmps26
        go_wp2_with (first
         | (go_at_call 44; refine (HTF.out _ (below_alloc (Below.refl _ _) _)).mono ?_; rintro e w1 ⟨rfl, hb⟩; replace BK := Aside0.mk (blk_below BK.out hb); replace HB := Aside0.mk (below_step (below_alloc (Below.refl _ _) _) hb); clear hb; have z1_0 : w1.cell? ⟨w.heap.size, 0, none⟩ = some (.slice A0 l0.length c0) := (blk_cell BK.out 0).trans rfl; have z1_1 : w1.cell? ⟨w.heap.size, 1, none⟩ = some (.slice A1 l1.length c1) := (blk_cell BK.out 1).trans rfl; have z1_2 : w1.cell? ⟨w.heap.size, 2, none⟩ = some (.slice A2 l2.length c2) := (blk_cell BK.out 2).trans rfl; have z1_3 : w1.cell? ⟨w.heap.size, 3, none⟩ = some (.slice A3 l3.length c3) := (blk_cell BK.out 3).trans rfl; have z1_4 : w1.cell? ⟨w.heap.size, 4, none⟩ = some (.int .u32 a4) := (blk_cell BK.out 4).trans rfl; have z1_5 : w1.cell? ⟨w.heap.size, 5, none⟩ = some (.slice A5 l5.length c5) := (blk_cell BK.out 5).trans rfl; have z1_6 : w1.cell? ⟨w.heap.size, 6, none⟩ = some (.int .i64 a6) := (blk_cell BK.out 6).trans rfl; have z1_7 : w1.cell? ⟨w.heap.size, 7, none⟩ = some (.slice A7 l7.length c7) := (blk_cell BK.out 7).trans rfl; have z1_8 : w1.cell? ⟨w.heap.size, 8, none⟩ = some (.int .i64 a8) := (blk_cell BK.out 8).trans rfl; have z1_9 : w1.cell? ⟨w.heap.size, 9, none⟩ = some (.string a9) := (blk_cell BK.out 9).trans rfl))
        go_ret
        exact ⟨rfl, by first | exact HB.out | exact below_alloc HB.out _⟩
def dict_Formed.f (l0_0 : List Int) (l0_1 : List Int) (l0_2 : List (S51)) (l0_3 : List Int) (a0_4 : Int) (l0_5 : List (S91)) (a0_6 : Int) (l0_7 : List (S82)) (a0_8 : Int) (a0_9 : ByteArray) : Option (Bool) := some (formedF l0_0 l0_1 l0_2 l0_3 a0_4 l0_5 a0_6 l0_7 a0_8 a0_9)
end Go.Proofs.Ytfpkakedlapmkaa.Q
end
section
set_option linter.unusedSimpArgs false
set_option linter.unusedVariables false
namespace Go.Proofs.Ytfpkakedlapmkaa.Q
open Go.RowKit Go.Proofs.YtfpkakedlapmkaaW.PrintWords Go.Proofs.YtfpkakedlapmkaaW.PrintLast
section
variable {α : Type} {d : Kd α} {e : TypeId} {w W W' : World} {base g n cap i : Nat} {xs : List α} {cur cur' : Array Value} {v : Value}
theorem raw_nil {sz : Nat} {ok : Nat → Prop} (h : (Kd.raw sz).R e W base ok v []) (hs : sz = d.sz) : d.R e W base ok v [] := by
 obtain ⟨hok, inner, ho, hr⟩ := h
 have h1 := hr.1
 have e1 : inner = [] := List.eq_nil_of_length_eq_zero (by rw [h1, List.length_nil, Nat.zero_mul])
 subst e1
 subst hs
 exact ⟨hok, [], ho, Reps.none _ _⟩
def PX (d : Kd α) (e : TypeId) (w W : World) (base g n cap i : Nat) (xs : List α) (cur : Array Value) : Prop := ∃ f, PR (Kd.tag f d) e w W base g n cap i xs.zipIdx cur
theorem PX_PR (h : PX d e w W base g n cap i xs cur) : PR d e w W base g n cap i xs cur := by
 obtain ⟨f, hh, hb, hl, hnc, hcm, hcs, hj⟩ := h
 rw [List.length_zipIdx] at hl
 refine ⟨hh, hb, hl, hnc, hcm, hcs, fun j x hx => ?_⟩
 have h1 := hj j (x, j) (Kd.zip_at hx)
 split
 ·rename_i h2
  rw [if_pos h2] at h1
  exact d.M_mono (fun k hk => hk.1) h1
 ·rename_i h2
  rw [if_neg h2] at h1
  exact h1
theorem PX_start (h : PR d e w W base g n cap 0 xs cur) : PX d e w W base g n cap 0 xs cur := by
 obtain ⟨hh, hb, hl, hnc, hcm, hcs, hj⟩ := h
 refine ⟨fun _ => 0, hh, hb, by rw [List.length_zipIdx]; exact hl, hnc, hcm, hcs, fun j y hy => ?_⟩
 rw [if_neg (Nat.not_lt_zero j)]
 rw [List.getElem?_zipIdx] at hy
 obtain ⟨x, hx, rfl⟩ := Option.map_eq_some_iff.1 hy
 have h1 := hj j x hx
 rw [if_neg (Nat.not_lt_zero j)] at h1
 exact h1
theorem PR_tag {zs : List (α × Nat)} {f f' : Nat → Nat} (h : PR (Kd.tag f d) e w W base g n cap i zs cur) (hf : ∀ k, k < W.heap.size → f' k = f k) : PR (Kd.tag f' d) e w W base g n cap i zs cur := by
 obtain ⟨hh, hb, hl, hnc, hcm, hcs, hj⟩ := h
 refine ⟨hh, hb, hl, hnc, hcm, hcs, fun j y hy => ?_⟩
 have h1 := hj j y hy
 split
 ·rename_i h2
  rw [if_pos h2] at h1
  exact d.M_mono (fun k hk => ⟨hk.1.1, (hf k hk.2.2.1).trans hk.1.2⟩) (d.M_bound h1)
 ·rename_i h2
  rw [if_neg h2] at h1
  exact h1
theorem PX_put {x : α} (h : PX d e w W base g n cap i xs cur) (hx : xs[i]? = some x) (hh' : W'.heap[g]? = some (.cells cur' e (0, 0))) (hsz : cur'.size = cur.size) (hseg : ∀ j, j ≠ i → seg cur'.toList d.sz j = seg cur.toList d.sz j)
  (hM : d.M W' base (fun k => k ≠ g ∧ W.heap.size ≤ k) x (seg cur'.toList d.sz i)) (hm : ∀ k, k ≠ g → k < W.heap.size → W'.heap[k]? = W.heap[k]?) : PX d e w W' base g n cap (i + 1) xs cur' := by
 obtain ⟨f, hP⟩ := h
 refine ⟨fun k => if k < W.heap.size then f k else i, PR_put (PR_tag hP (fun k hk => if_pos hk)) hh' hsz hseg (fun y hy => ?_) hm⟩
 rw [Kd.zip_at hx] at hy
 obtain rfl := Option.some.inj hy
 exact d.M_mono (fun k hk => ⟨hk.1, if_neg (by have := hk.2; omega)⟩) hM
/-- The same, or a list without elements. -/
def WP (d : Kd α) (e : TypeId) (w W : World) (base : Nat) (v : Value) (i : Nat) (xs : List α) : Prop :=
 (xs = [] ∧ Kd.S d e W base (fun _ => True) v xs) ∨ ∃ g cap cur, v = .slice (some ⟨g, 0, none⟩) xs.length cap ∧ PX d e w W base g xs.length cap i xs cur
theorem WP_start {css : List (List Value)} {ok : Nat → Prop} (h : (Kd.raw d.sz).R e W base ok v css) (hl : css.length = xs.length) (hK : ∀ (j : Nat) x c, xs[j]? = some x → css[j]? = some c → d.K w x c) : WP d e w W base v 0 xs := by
 by_cases hn : xs = []
 ·subst hn
  have e2 : css = [] := List.eq_nil_of_length_eq_zero (by simpa using hl)
  subst e2
  exact .inl ⟨rfl, fun _ => 0, Kd.R_mono (raw_nil (d := Kd.tag (fun _ => 0) d) h rfl) (fun _ _ => trivial)⟩
 ·right
  obtain ⟨A1, cap, rfl⟩ := Kd.R_slice h
  rw [hl] at h ⊢
  cases A1 with
  | none =>
   have h2 := (Kd.R_reads' h).2.2
   have e2 := C_nil_eq h2
   rw [e2] at hl
   exact absurd (List.eq_nil_of_length_eq_zero hl.symm) hn
  | some ad =>
   obtain ⟨g, rfl⟩ := Kd.R_head h
   obtain ⟨cur, hP⟩ := PR_start (d := d) (xs := xs) h hl hK
   exact ⟨g, cap, cur, rfl, PX_start hP⟩
theorem WP_end (h : WP d e w W base v xs.length xs) : Kd.S d e W base (fun _ => True) v xs := by
 rcases h with ⟨_, h⟩ | ⟨g, cap, cur, rfl, f, h⟩
 ·exact h
 ·have e1 : xs.zipIdx.length = xs.length := List.length_zipIdx
  exact ⟨f, PR_end h⟩
theorem WP_open (h : WP d e w W base v i xs) (hi : i < xs.length) : ∃ g cap cur, v = .slice (some ⟨g, 0, none⟩) xs.length cap ∧ PX d e w W base g xs.length cap i xs cur := by
 rcases h with ⟨h, _⟩ | h
 ·rw [h] at hi
  exact absurd hi (Nat.not_lt_zero _)
 ·exact h
end
theorem cell_step {p : Addr} {a : Value} {W w2 : World} (h : W.cell? p = some a) (hb : Below W.heap.size W w2) : w2.cell? p = some a := (hb.cell (World.block_lt_of_cell? W _ h)).trans h
end Go.Proofs.Ytfpkakedlapmkaa.Q
end
section
set_option linter.unusedSimpArgs false
set_option linter.unusedVariables false
namespace Go.Proofs.Ytfpkakedlapmkaa.Q
open Go.RowKit Go.Proofs.YtfpkakedlapmkaaW.PrintWords Go.Proofs.YtfpkakedlapmkaaW.PrintLast Go.Proofs.YtfpkakedlapmkaaW.PrintMore
attribute [local go_sem] max2_int min2_int max_two min_two max_three min_three max_four min_four
set_option maxHeartbeats 4000000 in
set_option maxRecDepth 100000 in
theorem cloneWord_calls (A0 : Option Addr) (c0 : Nat) (l0 : List (List Value)) (w : World) (hr0 : Kd.C (Kd.raw 5) w A0 l0.length l0) (hl : l0.length * 64 < 140737488355328) :
  Calls Try.prog 57 #[.slice A0 l0.length c0] w fun e w' => ∃ v0_ : Value, e = .returned (v0_) ∧ Kd.R (Kd.raw 5) 51 w' w.heap.size (fun _ => True) v0_ l0 ∧ Below w.heap.size w w' := by
 have q : ∀ (w : World) (a : Option Addr) (n c n' c' : Nat), (binOp .eql 26 (.slice a n c) (.slice none n' c')).run Try.prog w = .ok (.bool a.isNone) w := fun w a n c n' c' => Lib.run_eql_slice_nil w _ _ a n c n' c' Try.underlying26
 cases A0 with
 | none =>
  obtain rfl := C_nil_eq hr0
  go_enter Try.func57, Try.ntmps57
  go_wp2
  go_ret
  exact ⟨_, rfl, Kd.R_nil _ _ _ _ _, Below.refl _ _⟩
 | some ad =>
  have HR := Aside0.mk hr0
  have HL := Aside0.mk hl
  clear hr0 hl
  go_enter Try.func57, Try.ntmps57
  go_wp2_with (at_builtin; refine Kd.R_append_rows (Kd.raw 5) (w0 := w) w.heap.size rfl (.tmp 5) (.tmp 6) 26 51 (.agg #[(.string ⟨#[]⟩), (.int .i64 0), (.int .i64 0), (.int .u32 0), (.slice none 0 0)]) 64 rfl Try.underlying26 info51 rfl (by decide) (by omega) (.slice (some ⟨w.heap.size, 0, none⟩) 0 0) ([] : List (List Value)) l0 _ _ _ (fun _ => True) (fun _ => False) rfl rfl ?aO ?aR (fun _ _ h => h) (fun _ h => h.elim) ?aF ?aB ?aS ?aL ?_; (case aR => exact Kd.C_alloc HR.out _); (case aB => exact (below_alloc (Below.refl _ _) _)); (case aF => exact (fun _ _ => trivial)); (case aO => exact R_empty _ _ _ _ (Nat.le_refl _)); (case aS => simp); (case aL => have := HL.out; simp only [List.length_nil]; omega); intro v1 w1 ho hb hg hat; have HO := Aside0.mk ho; have HB := Aside0.mk hb; clear ho hb hg hat)
  go_ret
  exact ⟨_, rfl, HO.out, HB.out⟩
set_option maxHeartbeats 4000000 in
set_option maxRecDepth 100000 in
theorem cloneInst_calls (A0 : Option Addr) (c0 : Nat) (l0 : List (List Value)) (w : World) (hr0 : Kd.C (Kd.raw 4) w A0 l0.length l0) (hl : l0.length * 56 < 140737488355328) :
  Calls Try.prog 58 #[.slice A0 l0.length c0] w fun e w' => ∃ v0_ : Value, e = .returned (v0_) ∧ Kd.R (Kd.raw 4) 82 w' w.heap.size (fun _ => True) v0_ l0 ∧ Below w.heap.size w w' := by
 have q : ∀ (w : World) (a : Option Addr) (n c n' c' : Nat), (binOp .eql 30 (.slice a n c) (.slice none n' c')).run Try.prog w = .ok (.bool a.isNone) w := fun w a n c n' c' => Lib.run_eql_slice_nil w _ _ a n c n' c' Try.underlying30
 cases A0 with
 | none =>
  obtain rfl := C_nil_eq hr0
  go_enter Try.func58, Try.ntmps58
  go_wp2
  go_ret
  exact ⟨_, rfl, Kd.R_nil _ _ _ _ _, Below.refl _ _⟩
 | some ad =>
  have HR := Aside0.mk hr0
  have HL := Aside0.mk hl
  clear hr0 hl
  go_enter Try.func58, Try.ntmps58
  go_wp2_with (at_builtin; refine Kd.R_append_rows (Kd.raw 4) (w0 := w) w.heap.size rfl (.tmp 5) (.tmp 6) 30 82 (.agg #[(.int .i64 0), (.int .i64 0), (.string ⟨#[]⟩), (.slice none 0 0)]) 56 rfl Try.underlying30 info82 rfl (by decide) (by omega) (.slice (some ⟨w.heap.size, 0, none⟩) 0 0) ([] : List (List Value)) l0 _ _ _ (fun _ => True) (fun _ => False) rfl rfl ?aO ?aR (fun _ _ h => h) (fun _ h => h.elim) ?aF ?aB ?aS ?aL ?_; (case aR => exact Kd.C_alloc HR.out _); (case aB => exact (below_alloc (Below.refl _ _) _)); (case aF => exact (fun _ _ => trivial)); (case aO => exact R_empty _ _ _ _ (Nat.le_refl _)); (case aS => simp); (case aL => have := HL.out; simp only [List.length_nil]; omega); intro v1 w1 ho hb hg hat; have HO := Aside0.mk ho; have HB := Aside0.mk hb; clear ho hb hg hat)
  go_ret
  exact ⟨_, rfl, HO.out, HB.out⟩
set_option maxHeartbeats 4000000 in
set_option maxRecDepth 100000 in
theorem cloneI64_calls (A0 : Option Addr) (c0 : Nat) (l0 : List Int) (w : World) (hr0 : Kd.C (Kd.int .i64) w A0 l0.length l0) (hl : l0.length * 8 < 140737488355328) :
  Calls Try.prog 56 #[.slice A0 l0.length c0] w fun e w' => ∃ v0_ : Value, e = .returned (v0_) ∧ Kd.R (Kd.int .i64) 3 w' w.heap.size (fun _ => True) v0_ l0 ∧ Below w.heap.size w w' := by
 have q : ∀ (w : World) (a : Option Addr) (n c n' c' : Nat), (binOp .eql 27 (.slice a n c) (.slice none n' c')).run Try.prog w = .ok (.bool a.isNone) w := fun w a n c n' c' => Lib.run_eql_slice_nil w _ _ a n c n' c' Try.underlying27
 cases A0 with
 | none =>
  obtain rfl := C_nil_eq hr0
  go_enter Try.func56, Try.ntmps56
  go_wp2
  go_ret
  exact ⟨_, rfl, Kd.R_nil _ _ _ _ _, Below.refl _ _⟩
 | some ad =>
  have HR := Aside0.mk hr0
  have HL := Aside0.mk hl
  clear hr0 hl
  go_enter Try.func56, Try.ntmps56
  go_wp2_with (at_builtin; refine Kd.R_append_rows (Kd.int .i64) (w0 := w) w.heap.size rfl (.tmp 5) (.tmp 6) 27 3 (.int .i64 0) 8 rfl Try.underlying27 info3 rfl (by decide) (by omega) (.slice (some ⟨w.heap.size, 0, none⟩) 0 0) ([] : List Int) l0 _ _ _ (fun _ => True) (fun _ => False) rfl rfl ?aO ?aR (fun _ _ h => h) (fun _ h => h.elim) ?aF ?aB ?aS ?aL ?_; (case aR => exact Kd.C_alloc HR.out _); (case aB => exact (below_alloc (Below.refl _ _) _)); (case aF => exact (fun _ _ => trivial)); (case aO => exact R_empty _ _ _ _ (Nat.le_refl _)); (case aS => simp); (case aL => have := HL.out; simp only [List.length_nil]; omega); intro v1 w1 ho hb hg hat; have HO := Aside0.mk ho; have HB := Aside0.mk hb; clear ho hb hg hat)
  go_ret
  exact ⟨_, rfl, HO.out, HB.out⟩
set_option maxHeartbeats 4000000 in
set_option maxRecDepth 100000 in
theorem cloneOp_calls (A0 : Option Addr) (c0 : Nat) (l0 : List S69) (w : World) (hr0 : Kd.C k69 w A0 l0.length l0) (hl : l0.length * 16 < 140737488355328) :
  Calls Try.prog 60 #[.slice A0 l0.length c0] w fun e w' => ∃ v0_ : Value, e = .returned (v0_) ∧ Kd.R k69 69 w' w.heap.size (fun _ => True) v0_ l0 ∧ Below w.heap.size w w' := by
 have q : ∀ (w : World) (a : Option Addr) (n c n' c' : Nat), (binOp .eql 43 (.slice a n c) (.slice none n' c')).run Try.prog w = .ok (.bool a.isNone) w := fun w a n c n' c' => Lib.run_eql_slice_nil w _ _ a n c n' c' Try.underlying43
 cases A0 with
 | none =>
  obtain rfl := C_nil_eq hr0
  go_enter Try.func60, Try.ntmps60
  go_wp2
  go_ret
  exact ⟨_, rfl, Kd.R_nil _ _ _ _ _, Below.refl _ _⟩
 | some ad =>
  have HR := Aside0.mk hr0
  have HL := Aside0.mk hl
  clear hr0 hl
  go_enter Try.func60, Try.ntmps60
  go_wp2_with (at_builtin; refine Kd.R_append_rows k69 (w0 := w) w.heap.size rfl (.tmp 5) (.tmp 6) 43 69 (.agg #[(.int .i64 0), (.int .u32 0)]) 16 rfl Try.underlying43 info69 rfl (by decide) (by omega) (.slice (some ⟨w.heap.size, 0, none⟩) 0 0) ([] : List S69) l0 _ _ _ (fun _ => True) (fun _ => False) rfl rfl ?aO ?aR (fun _ _ h => h) (fun _ h => h.elim) ?aF ?aB ?aS ?aL ?_; (case aR => exact Kd.C_alloc HR.out _); (case aB => exact (below_alloc (Below.refl _ _) _)); (case aF => exact (fun _ _ => trivial)); (case aO => exact R_empty _ _ _ _ (Nat.le_refl _)); (case aS => simp); (case aL => have := HL.out; simp only [List.length_nil]; omega); intro v1 w1 ho hb hg hat; have HO := Aside0.mk ho; have HB := Aside0.mk hb; clear ho hb hg hat)
  go_ret
  exact ⟨_, rfl, HO.out, HB.out⟩
end Go.Proofs.Ytfpkakedlapmkaa.Q
end
section
set_option linter.unusedSimpArgs false
set_option linter.unusedVariables false
namespace Go.Proofs.Ytfpkakedlapmkaa.Q
open Go.RowKit Go.Proofs.YtfpkakedlapmkaaW.PrintWords Go.Proofs.YtfpkakedlapmkaaW.PrintLast Go.Proofs.YtfpkakedlapmkaaW.PrintMore
attribute [local go_sem] max2_int min2_int max_two min_two max_three min_three max_four min_four
theorem seg51 (cur : List Value) (i : Nat) (a b c d e v : Value) (h : seg cur 5 i = [a, b, c, d, e]) : seg (cur.set (i * 5 + 4) v) 5 i = [a, b, c, d, v] := by
 rw [seg_set _ 5 i 4 i _ (by decide), if_pos rfl, h]
 rfl
theorem seg51_ne (cur : List Value) (i j : Nat) (v : Value) (h : j ≠ i) : seg (cur.set (i * 5 + 4) v) 5 j = seg cur 5 j := by
 rw [seg_set _ 5 i 4 j _ (by decide), if_neg h]
theorem seg82 (cur : List Value) (i : Nat) (a b c d v : Value) (h : seg cur 4 i = [a, b, c, d]) : seg (cur.set (i * 4 + 3) v) 4 i = [a, b, c, v] := by
 rw [seg_set _ 4 i 3 i _ (by decide), if_pos rfl, h]
 rfl
theorem seg82_ne (cur : List Value) (i j : Nat) (v : Value) (h : j ≠ i) : seg (cur.set (i * 4 + 3) v) 4 j = seg cur 4 j := by
 rw [seg_set _ 4 i 3 j _ (by decide), if_neg h]
/-- The three rows of numbers. -/
def RA (b : Nat) (v0 v1 v3 : Value) (l0 l1 l3 : List Int) (W : World) : Prop := Kd.R (Kd.int .u32) 28 W b (fun _ => True) v0 l0 ∧ Kd.R (Kd.int .u8) 5 W b (fun _ => True) v1 l1 ∧ Kd.R (Kd.int .i64) 3 W b (fun _ => True) v3 l3
section
variable {b g t : Nat} {v0 v1 v3 : Value} {l0 l1 l3 : List Int} {W W' : World} {cells : Array Value}
theorem RA_below (h : RA b v0 v1 v3 l0 l1 l3 W) (hb : Below W.heap.size W W') : RA b v0 v1 v3 l0 l1 l3 W' := ⟨Kd.R_below h.1 hb, Kd.R_below h.2.1 hb, Kd.R_below h.2.2 hb⟩
theorem RA_set (h : RA b v0 v1 v3 l0 l1 l3 W) (hb : W.heap[g]? = some (.cells cells t (0, 0))) (ht : ∀ q, q ∈ [28, 5, 3] → q ≠ t) (j : Nat) (u : Value) : RA b v0 v1 v3 l0 l1 l3 (W.setCell ⟨g, j, none⟩ u) :=
 ⟨Kd.R_set h.1 hb (fun q hq => ht q (by simp [Kd.int, Kd.scalar] at hq; simp [hq])) j u, Kd.R_set h.2.1 hb (fun q hq => ht q (by simp [Kd.int, Kd.scalar] at hq; simp [hq])) j u, Kd.R_set h.2.2 hb (fun q hq => ht q (by simp [Kd.int, Kd.scalar] at hq; simp [hq])) j u⟩
end
theorem old_ne {α : Type} {d : Kd α} {e b : Nat} {W w1 : World} {v u : Value} {xs : List α} (h : Kd.R d e w1 b (fun _ => True) v xs) (hu : ∀ k, u.ownBlock = some k → k < b) : Kd.R d e w1 b (fun k => some k ≠ u.ownBlock) v xs :=
 Kd.R_mono (Kd.R_bound h) (fun k hk e => by have := hu k e.symm; have := hk.2.1; omega)
theorem S_old_ne {α : Type} {d : Kd α} {e b : Nat} {w1 : World} {v u : Value} {xs : List α} (h : Kd.S d e w1 b (fun _ => True) v xs) (hu : ∀ k, u.ownBlock = some k → k < b) : Kd.S d e w1 b (fun k => some k ≠ u.ownBlock) v xs :=
 Kd.S_mono (Kd.S_bound h) (fun k hk e => by have := hu k e.symm; have := hk.2.1; omega)
theorem setAll_S {α : Type} {d : Kd α} {e base g t : Nat} {ok : Nat → Prop} {v : Value} {xs : List α} (ht : ∀ q, q ∈ e :: d.E → q ≠ t) : ∀ (us : List Value) (i : Nat) (W : World) (cs : Array Value), W.heap[g]? = some (.cells cs t (0, 0)) → Kd.S d e W base ok v xs → Kd.S d e (setAll W g us i) base ok v xs
 | [], _, _, _, _, h => h
 | u :: us, i, W, cs, hb, h => setAll_S ht us (i + 1) _ _ (blk_put hb i u rfl) (Kd.S_set h hb ht i u)
set_option maxHeartbeats 16000000 in
set_option maxRecDepth 100000 in
theorem dcopy_calls (A0 : Option Addr) (c0 : Nat) (l0 : List Int) (A1 : Option Addr) (c1 : Nat) (l1 : List Int) (A2 : Option Addr) (c2 : Nat) (l2 : List S51) (A3 : Option Addr) (c3 : Nat) (l3 : List Int) (a4 : Int) (A5 : Option Addr) (c5 : Nat) (l5 : List S91) (a6 : Int) (A7 : Option Addr) (c7 : Nat) (l7 : List S82) (a8 : Int) (a9 : ByteArray) (w : World) (hr0 : Kd.C (Kd.int .u32) w A0 l0.length l0) (hr1 : Kd.C (Kd.int .u8) w A1 l1.length l1) (hr2 : Kd.C k51 w A2 l2.length l2) (hr3 : Kd.C (Kd.int .i64) w A3 l3.length l3) (hr5 : Kd.C k91 w A5 l5.length l5) (hc5 : l5.length ≤ c5) (hr7 : Kd.C k82 w A7 l7.length l7)
  (hl0 : l0.length * 4 < 140737488355328) (hl1 : l1.length * 1 < 140737488355328) (hl2 : l2.length * 64 < 140737488355328) (hl3 : l3.length * 8 < 140737488355328) (hl5 : l5.length * 96 < 140737488355328) (hG5 : ∀ x ∈ l5, G91 x) (hl7 : l7.length * 56 < 140737488355328) (hG2 : ∀ x ∈ l2, x.f4.length * 16 < 140737488355328) (hG7 : ∀ x ∈ l7, x.f3.length * 4 < 140737488355328) :
  Calls Try.prog 28 #[.agg #[.slice A0 l0.length c0, .slice A1 l1.length c1, .slice A2 l2.length c2, .slice A3 l3.length c3, .int .u32 a4, .slice A5 l5.length c5, .int .i64 a6, .slice A7 l7.length c7, .int .i64 a8, .string a9]] w fun e w' => ∃ v0_ v1_ v2_ v3_ v5_ v7_ : Value, e = .returned (.agg #[v0_, v1_, v2_, v3_, .int .u32 a4, v5_, .int .i64 a6, v7_, .int .i64 a8, .string a9]) ∧ Kd.R (Kd.int .u32) 28 w' w.heap.size (fun _ => True) v0_ l0 ∧ Kd.R (Kd.int .u8) 5 w' w.heap.size (fun _ => True) v1_ l1 ∧ Kd.S k51 51 w' w.heap.size (fun _ => True) v2_ l2 ∧ Kd.R (Kd.int .i64) 3 w' w.heap.size (fun _ => True) v3_ l3 ∧ Kd.R k91 91 w' w.heap.size (fun k_ => some k_ ≠ (v0_ : Value).ownBlock ∧ some k_ ≠ (v1_ : Value).ownBlock) v5_ l5 ∧ Kd.S k82 82 w' w.heap.size (fun k_ => some k_ ≠ (v0_ : Value).ownBlock) v7_ l7 ∧ Below w.heap.size w w' := by
 have hu32 := Try.underlying32
 have hu51 := Try.underlying51
 have hu82 := Try.underlying82
 have mixed : Try.prog.follows Departure.mixedOrders = true := by kernel_rfl
 obtain ⟨css2, hcl2, hck2r, hck2⟩ := C_raw hr2
 obtain ⟨css7, hcl7, hck7r, hck7⟩ := C_raw hr7
 rw [← hcl2] at hck2r
 rw [← hcl7] at hck7r
 have HCL2 := Aside0.mk hcl2
 have HCL7 := Aside0.mk hcl7
 have HCK2 := Aside0.mk hck2
 have HCK7 := Aside0.mk hck7
 have HG2 := Aside0.mk hG2
 have HG7 := Aside0.mk hG7
 have HL2 := Aside0.mk hl2
 have HL7 := Aside0.mk hl7
 have HC0 := Aside0.mk (fun (X : World) (hX : Below w.heap.size w X) => cloneU32_calls A0 c0 l0 X (Kd.C_below hr0 hX) hl0)
 have HC1 := Aside0.mk (fun (X : World) (hX : Below w.heap.size w X) => cloneByte_calls A1 c1 l1 X (Kd.C_below hr1 hX) hl1)
 have HC3 := Aside0.mk (fun (X : World) (hX : Below w.heap.size w X) => cloneI64_calls A3 c3 l3 X (Kd.C_below hr3 hX) hl3)
 have HC2 := Aside0.mk (show ∀ (X : World), Below w.heap.size w X → Calls Try.prog 57 #[.slice A2 l2.length c2] X fun e w' => ∃ v0_ : Value, e = .returned (v0_) ∧ Kd.R (Kd.raw 5) 51 w' X.heap.size (fun _ => True) v0_ css2 ∧ Below X.heap.size X w' from fun X hX => by
  have h := cloneWord_calls A2 c2 css2 X (Kd.C_below hck2r hX) (by rw [hcl2]; exact hl2)
  rw [hcl2] at h
  exact h)
 have HC7 := Aside0.mk (show ∀ (X : World), Below w.heap.size w X → Calls Try.prog 58 #[.slice A7 l7.length c7] X fun e w' => ∃ v0_ : Value, e = .returned (v0_) ∧ Kd.R (Kd.raw 4) 82 w' X.heap.size (fun _ => True) v0_ css7 ∧ Below X.heap.size X w' from fun X hX => by
  have h := cloneInst_calls A7 c7 css7 X (Kd.C_below hck7r hX) (by rw [hcl7]; exact hl7)
  rw [hcl7] at h
  exact h)
 have HC5 := Aside0.mk (fun (X : World) (hX : Below w.heap.size w X) => treeCopy_calls A5 c5 l5 X (Kd.C_below hr5 hX) hc5 hl5 hG5)
 clear hr0 hr1 hr2 hr3 hr5 hc5 hr7 hcl2 hck2r hck2 hcl7 hck7r hck7 hl0 hl1 hl2 hl3 hl5 hl7 hG2 hG5 hG7
 obtain ⟨gm, hgm⟩ : ∃ gm, gm = w.heap.size := ⟨_, rfl⟩
 obtain ⟨gr, hgr⟩ : ∃ gr, gr = w.heap.size + 1 := ⟨_, rfl⟩
 go_enter Try.func28, Try.ntmps28
 go_wp2
 obtain ⟨W0, hW0⟩ : ∃ W0, W0 = (w.alloc (.cells #[.slice A0 l0.length c0, .slice A1 l1.length c1, .slice A2 l2.length c2, .slice A3 l3.length c3, .int .u32 a4, .slice A5 l5.length c5, .int .i64 a6, .slice A7 l7.length c7, .int .i64 a8, .string a9] 32)).alloc (.cells #[.slice none 0 0, .slice none 0 0, .slice none 0 0, .slice none 0 0, .int .u32 0, .slice none 0 0, .int .i64 0, .slice none 0 0, .int .i64 0, .string ⟨#[]⟩] 32) := ⟨_, rfl⟩
 have b0 : W0.heap[gm]? = some (.cells #[.slice A0 l0.length c0, .slice A1 l1.length c1, .slice A2 l2.length c2, .slice A3 l3.length c3, .int .u32 a4, .slice A5 l5.length c5, .int .i64 a6, .slice A7 l7.length c7, .int .i64 a8, .string a9] 32 (0, 0)) := by rw [hW0, hgm]; exact blk_alloc (blk_new w _) _
 have b1 : W0.heap[gr]? = some (.cells #[.slice none 0 0, .slice none 0 0, .slice none 0 0, .slice none 0 0, .int .u32 0, .slice none 0 0, .int .i64 0, .slice none 0 0, .int .i64 0, .string ⟨#[]⟩] 32 (0, 0)) := by
  rw [hW0, hgr]
  have h := blk_new (w.alloc (.cells #[.slice A0 l0.length c0, .slice A1 l1.length c1, .slice A2 l2.length c2, .slice A3 l3.length c3, .int .u32 a4, .slice A5 l5.length c5, .int .i64 a6, .slice A7 l7.length c7, .int .i64 a8, .string a9] 32)) (.cells #[.slice none 0 0, .slice none 0 0, .slice none 0 0, .slice none 0 0, .int .u32 0, .slice none 0 0, .int .i64 0, .slice none 0 0, .int .i64 0, .string ⟨#[]⟩] 32)
  rw [World.size_alloc] at h
  exact h
 have hB0 : Below w.heap.size w W0 := by rw [hW0]; exact below_alloc (below_alloc (Below.refl _ _) _) _
 rw [← hW0]
 rw [← hgr]
 rw [← hgm]
 clear hW0
 have HB0 := Aside0.mk hB0
 have BM0 := Aside0.mk b0
 have BR0 := Aside0.mk b1
 have HGM := Aside0.mk (show w.heap.size ≤ gm by omega)
 have HNE := Aside0.mk (show gr ≠ gm by omega)
 have HGR := Aside0.mk (show w.heap.size ≤ gr by omega)
 clear hB0 b0 b1 hgm hgr
 have hy0 : W0.cell? ⟨gm, 0, none⟩ = some (.slice A0 l0.length c0) := (blk_cell BM0.out 0).trans rfl
 have hy1 : W0.cell? ⟨gm, 1, none⟩ = some (.slice A1 l1.length c1) := (blk_cell BM0.out 1).trans rfl
 have hy3 : W0.cell? ⟨gm, 3, none⟩ = some (.slice A3 l3.length c3) := (blk_cell BM0.out 3).trans rfl
 refine start_ (n := 15) (S := fun w' => w'.cell? ⟨gm, 0, none⟩ = some (.slice A0 l0.length c0) ∧ w'.cell? ⟨gm, 1, none⟩ = some (.slice A1 l1.length c1) ∧ w'.cell? ⟨gm, 3, none⟩ = some (.slice A3 l3.length c3) ∧ Below W0.heap.size W0 w') (ds := [10, 12, 14]) #[false, false, false, false, false, false, false, false, false, false, false, false, false, false, false] (by kernel_rfl) rfl rfl ⟨hy0, hy1, hy3, below_drew1 (Below.refl W0.heap.size W0)⟩ (fun hHeld => ?_)
 refine pure_ (i := 0) (N := some 5) (v := ?_) (a' := ?_) #[true, false, false, false, false, false, false, false, false, false, false, false, false, false, false] rfl rfl (by kernel_rfl) (fun _ _ _ h => h) (Or.inl ⟨by rfl, ?_⟩) ?_ ?_
 rotate_left
 ·intro w'
  go_simp
  with_reducible rfl
 rotate_left
 ·simp only [Act.put, List.setIfInBounds_toArray, List.set_cons_zero, List.set_cons_succ]
  rfl
 refine pure_ (i := 3) (N := some 8) (v := ?_) (a' := ?_) #[true, false, false, true, false, false, false, false, false, false, false, false, false, false, false] rfl rfl (by kernel_rfl) (fun _ _ _ h => h) (Or.inl ⟨by rfl, ?_⟩) ?_ ?_
 rotate_left
 ·intro w'
  go_simp
  with_reducible rfl
 rotate_left
 ·simp only [Act.put, List.setIfInBounds_toArray, List.set_cons_zero, List.set_cons_succ]
  rfl
 refine pure_ (i := 6) (N := some 11) (v := ?_) (a' := ?_) #[true, false, false, true, false, false, true, false, false, false, false, false, false, false, false] rfl rfl (by kernel_rfl) (fun _ _ _ h => h) (Or.inl ⟨by rfl, ?_⟩) ?_ ?_
 rotate_left
 ·intro w'
  go_simp
  with_reducible rfl
 rotate_left
 ·simp only [Act.put, List.setIfInBounds_toArray, List.set_cons_zero, List.set_cons_succ]
  rfl
 refine take_ (i := 1) (N := some 6) (v := (.slice A0 l0.length c0)) (a' := ?_) #[true, true, false, true, false, false, true, false, false, false, false, false, false, false, false] rfl rfl (by kernel_rfl) (fun _ _ _ h => h) (Or.inl ⟨by rfl, ?_⟩) hHeld ?_ ?_
 rotate_left
 rotate_left
 ·simp only [Act.put, List.setIfInBounds_toArray, List.set_cons_zero, List.set_cons_succ]
  rfl
 rotate_left
 ·rintro w' ⟨s0, s1, s2, s3⟩
  go_simp
 refine take_ (i := 4) (N := some 9) (v := (.slice A1 l1.length c1)) (a' := ?_) #[true, true, false, true, true, false, true, false, false, false, false, false, false, false, false] rfl rfl (by kernel_rfl) (fun _ _ _ h => h) (Or.inl ⟨by rfl, ?_⟩) hHeld ?_ ?_
 rotate_left
 rotate_left
 ·simp only [Act.put, List.setIfInBounds_toArray, List.set_cons_zero, List.set_cons_succ]
  rfl
 rotate_left
 ·rintro w' ⟨s0, s1, s2, s3⟩
  go_simp
 refine take_ (i := 7) (N := some 12) (v := (.slice A3 l3.length c3)) (a' := ?_) #[true, true, false, true, true, false, true, true, false, false, false, false, false, false, false] rfl rfl (by kernel_rfl) (fun _ _ _ h => h) (Or.inl ⟨by rfl, ?_⟩) hHeld ?_ ?_
 rotate_left
 rotate_left
 ·simp only [Act.put, List.setIfInBounds_toArray, List.set_cons_zero, List.set_cons_succ]
  rfl
 rotate_left
 ·rintro w' ⟨s0, s1, s2, s3⟩
  go_simp
 refine one_ (i := 2) (N := some 7) #[true, true, true, true, true, false, true, true, false, false, false, false, false, false, false] rfl rfl (by kernel_rfl) (by decide) (fun K hK => ?_)
 refine goes_ Try.func54 (by kernel_rfl) rfl #[.slice A0 l0.length c0] (by rfl) rfl rfl (by first | rfl | (simp only [List.map_toArray, List.map_cons, List.map_nil]; rfl)) ?_
 refine (HC0.out _ (below_step HB0.out hHeld.2.2.2)).mono ?_
 rintro e w2 ⟨v0, rfl, ho, hb⟩
 obtain ⟨B0, b0, rfl⟩ := Kd.R_slice ho
 have HO0 := Aside0.mk (Kd.R_lower ho (below_step HB0.out hHeld.2.2.2).size)
 refine ⟨_, rfl, hK.out _ _ ⟨cell_step hHeld.1 hb, cell_step hHeld.2.1 hb, cell_step hHeld.2.2.1 hb, below_step hHeld.2.2.2 hb⟩ (fun hHeld => ?_)⟩
 clear ho hb
 clear hK K
 simp only [Act.put, List.setIfInBounds_toArray, List.set_cons_zero, List.set_cons_succ]
 refine pure_ (i := 9) (N := some 14) (v := ?_) (a' := ?_) #[true, true, true, true, true, false, true, true, false, true, false, false, false, false, false] rfl rfl (by kernel_rfl) (fun _ _ _ h => h) (Or.inl ⟨by rfl, ?_⟩) ?_ ?_
 rotate_left
 ·intro w'
  go_simp
  with_reducible rfl
 rotate_left
 ·simp only [Act.put, List.setIfInBounds_toArray, List.set_cons_zero, List.set_cons_succ]
  rfl
 refine one_ (i := 5) (N := some 10) #[true, true, true, true, true, true, true, true, false, true, false, false, false, false, false] rfl rfl (by kernel_rfl) (by decide) (fun K hK => ?_)
 refine goes_ Try.func55 (by kernel_rfl) rfl #[.slice A1 l1.length c1] (by rfl) rfl rfl (by first | rfl | (simp only [List.map_toArray, List.map_cons, List.map_nil]; rfl)) ?_
 refine (HC1.out _ (below_step HB0.out hHeld.2.2.2)).mono ?_
 rintro e w3 ⟨v1, rfl, ho, hb⟩
 obtain ⟨B1, b1, rfl⟩ := Kd.R_slice ho
 have HO1 := Aside0.mk (Kd.R_lower ho (below_step HB0.out hHeld.2.2.2).size)
 replace HO0 := Aside0.mk (Kd.R_below HO0.out hb)
 refine ⟨_, rfl, hK.out _ _ ⟨cell_step hHeld.1 hb, cell_step hHeld.2.1 hb, cell_step hHeld.2.2.1 hb, below_step hHeld.2.2.2 hb⟩ (fun hHeld => ?_)⟩
 clear ho hb
 clear hK K
 simp only [Act.put, List.setIfInBounds_toArray, List.set_cons_zero, List.set_cons_succ]
 refine one_ (i := 8) (N := some 13) #[true, true, true, true, true, true, true, true, true, true, false, false, false, false, false] rfl rfl (by kernel_rfl) (by decide) (fun K hK => ?_)
 refine goes_ Try.func56 (by kernel_rfl) rfl #[.slice A3 l3.length c3] (by rfl) rfl rfl (by first | rfl | (simp only [List.map_toArray, List.map_cons, List.map_nil]; rfl)) ?_
 refine (HC3.out _ (below_step HB0.out hHeld.2.2.2)).mono ?_
 rintro e w4 ⟨v3, rfl, ho, hb⟩
 obtain ⟨B3, b3, rfl⟩ := Kd.R_slice ho
 have HO3 := Aside0.mk (Kd.R_lower ho (below_step HB0.out hHeld.2.2.2).size)
 replace HO0 := Aside0.mk (Kd.R_below HO0.out hb)
 replace HO1 := Aside0.mk (Kd.R_below HO1.out hb)
 refine ⟨_, rfl, hK.out _ _ ⟨cell_step hHeld.1 hb, cell_step hHeld.2.1 hb, cell_step hHeld.2.2.1 hb, below_step hHeld.2.2.2 hb⟩ (fun hHeld => ?_)⟩
 clear ho hb
 clear hK K
 simp only [Act.put, List.setIfInBounds_toArray, List.set_cons_zero, List.set_cons_succ]
 have hm4 : w4.heap[gm]? = some (.cells #[.slice A0 l0.length c0, .slice A1 l1.length c1, .slice A2 l2.length c2, .slice A3 l3.length c3, .int .u32 a4, .slice A5 l5.length c5, .int .i64 a6, .slice A7 l7.length c7, .int .i64 a8, .string a9] 32 (0, 0)) := (hHeld.2.2.2.block gm (blk_lt BM0.out)).trans BM0.out
 have BM := Aside0.mk hm4
 have BR := Aside0.mk ((hHeld.2.2.2.block gr (blk_lt BR0.out)).trans BR0.out)
 have HBB := Aside0.mk (below_step HB0.out hHeld.2.2.2)
 clear hm4 hHeld hy0 hy1 hy3
 refine last_ (i := 10) (N := none) #[true, true, true, true, true, true, true, true, true, true, true, false, false, false, false] rfl rfl (by kernel_rfl) (by decide) (fun K hK => ?_)
 have hyo : w4.cell? ⟨gm, 0, none⟩ = some (.slice A0 l0.length c0) := (blk_cell BM.out 0).trans rfl
 have hfo := blk_frozen BM.out 0
 refine skip_ (w1 := ?_) (by rfl) rfl ?_ ?_
 rotate_left
 ·go_simp
  rfl
 refine hK.out _ _ ?_
 obtain ⟨w5, hw5⟩ : ∃ X, X = w4.setCell ⟨gm, 0, none⟩ (.slice B0 l0.length b0) := ⟨_, rfl⟩
 have BMn : w5.heap[gm]? = some (.cells #[.slice B0 l0.length b0, .slice A1 l1.length c1, .slice A2 l2.length c2, .slice A3 l3.length c3, .int .u32 a4, .slice A5 l5.length c5, .int .i64 a6, .slice A7 l7.length c7, .int .i64 a8, .string a9] 32 (0, 0)) := by rw [hw5]; exact blk_put BM.out 0 _ rfl
 have BRn : w5.heap[gr]? = some (.cells #[.slice none 0 0, .slice none 0 0, .slice none 0 0, .slice none 0 0, .int .u32 0, .slice none 0 0, .int .i64 0, .slice none 0 0, .int .i64 0, .string ⟨#[]⟩] 32 (0, 0)) := by rw [hw5]; exact (Below.heap_setCell _ _ _ gr HNE.out).trans BR.out
 have HBn : Below w.heap.size w w5 := by rw [hw5]; exact below_set HBB.out HGM.out
 replace HO0 := Aside0.mk (show Kd.R (Kd.int .u32) 28 w5 w.heap.size (fun _ => True) (.slice B0 l0.length b0) l0 by rw [hw5]; exact Kd.R_set HO0.out BM.out (by decide) 0 _)
 replace HO1 := Aside0.mk (show Kd.R (Kd.int .u8) 5 w5 w.heap.size (fun _ => True) (.slice B1 l1.length b1) l1 by rw [hw5]; exact Kd.R_set HO1.out BM.out (by decide) 0 _)
 replace HO3 := Aside0.mk (show Kd.R (Kd.int .i64) 3 w5 w.heap.size (fun _ => True) (.slice B3 l3.length b3) l3 by rw [hw5]; exact Kd.R_set HO3.out BM.out (by decide) 0 _)
 rw [← hw5]
 clear hyo hfo hK K hw5 BM BR HBB
 have BM := Aside0.mk BMn
 have BR := Aside0.mk BRn
 have HBB := Aside0.mk HBn
 clear BMn BRn HBn
 refine pure_ (i := 11) (N := some 15) (v := ?_) (a' := ?_) #[true, true, true, true, true, true, true, true, true, true, true, true, false, false, false] rfl rfl (by kernel_rfl) (fun _ _ _ h => h) (Or.inl ⟨by rfl, ?_⟩) ?_ ?_
 rotate_left
 ·intro w'
  go_simp
  with_reducible rfl
 rotate_left
 ·simp only [Act.put, List.setIfInBounds_toArray, List.set_cons_zero, List.set_cons_succ]
  rfl
 refine last_ (i := 12) (N := none) #[true, true, true, true, true, true, true, true, true, true, true, true, true, false, false] rfl rfl (by kernel_rfl) (by decide) (fun K hK => ?_)
 have hyo : w5.cell? ⟨gm, 1, none⟩ = some (.slice A1 l1.length c1) := (blk_cell BM.out 1).trans rfl
 have hfo := blk_frozen BM.out 1
 refine skip_ (w1 := ?_) (by rfl) rfl ?_ ?_
 rotate_left
 ·go_simp
  rfl
 refine hK.out _ _ ?_
 obtain ⟨w6, hw6⟩ : ∃ X, X = w5.setCell ⟨gm, 1, none⟩ (.slice B1 l1.length b1) := ⟨_, rfl⟩
 have BMn : w6.heap[gm]? = some (.cells #[.slice B0 l0.length b0, .slice B1 l1.length b1, .slice A2 l2.length c2, .slice A3 l3.length c3, .int .u32 a4, .slice A5 l5.length c5, .int .i64 a6, .slice A7 l7.length c7, .int .i64 a8, .string a9] 32 (0, 0)) := by rw [hw6]; exact blk_put BM.out 1 _ rfl
 have BRn : w6.heap[gr]? = some (.cells #[.slice none 0 0, .slice none 0 0, .slice none 0 0, .slice none 0 0, .int .u32 0, .slice none 0 0, .int .i64 0, .slice none 0 0, .int .i64 0, .string ⟨#[]⟩] 32 (0, 0)) := by rw [hw6]; exact (Below.heap_setCell _ _ _ gr HNE.out).trans BR.out
 have HBn : Below w.heap.size w w6 := by rw [hw6]; exact below_set HBB.out HGM.out
 replace HO0 := Aside0.mk (show Kd.R (Kd.int .u32) 28 w6 w.heap.size (fun _ => True) (.slice B0 l0.length b0) l0 by rw [hw6]; exact Kd.R_set HO0.out BM.out (by decide) 1 _)
 replace HO1 := Aside0.mk (show Kd.R (Kd.int .u8) 5 w6 w.heap.size (fun _ => True) (.slice B1 l1.length b1) l1 by rw [hw6]; exact Kd.R_set HO1.out BM.out (by decide) 1 _)
 replace HO3 := Aside0.mk (show Kd.R (Kd.int .i64) 3 w6 w.heap.size (fun _ => True) (.slice B3 l3.length b3) l3 by rw [hw6]; exact Kd.R_set HO3.out BM.out (by decide) 1 _)
 rw [← hw6]
 clear hyo hfo hK K hw6 BM BR HBB
 have BM := Aside0.mk BMn
 have BR := Aside0.mk BRn
 have HBB := Aside0.mk HBn
 clear BMn BRn HBn
 refine pure_ (i := 13) (N := some 16) (v := ?_) (a' := ?_) #[true, true, true, true, true, true, true, true, true, true, true, true, true, true, false] rfl rfl (by kernel_rfl) (fun _ _ _ h => h) (Or.inl ⟨by rfl, ?_⟩) ?_ ?_
 rotate_left
 ·intro w'
  go_simp
  with_reducible rfl
 rotate_left
 ·simp only [Act.put, List.setIfInBounds_toArray, List.set_cons_zero, List.set_cons_succ]
  rfl
 refine last_ (i := 14) (N := none) #[true, true, true, true, true, true, true, true, true, true, true, true, true, true, true] rfl rfl (by kernel_rfl) (by decide) (fun K hK => ?_)
 have hyo : w6.cell? ⟨gm, 3, none⟩ = some (.slice A3 l3.length c3) := (blk_cell BM.out 3).trans rfl
 have hfo := blk_frozen BM.out 3
 refine skip_ (w1 := ?_) (by rfl) rfl ?_ ?_
 rotate_left
 ·go_simp
  rfl
 refine hK.out _ _ ?_
 obtain ⟨w7, hw7⟩ : ∃ X, X = w6.setCell ⟨gm, 3, none⟩ (.slice B3 l3.length b3) := ⟨_, rfl⟩
 have BMn : w7.heap[gm]? = some (.cells #[.slice B0 l0.length b0, .slice B1 l1.length b1, .slice A2 l2.length c2, .slice B3 l3.length b3, .int .u32 a4, .slice A5 l5.length c5, .int .i64 a6, .slice A7 l7.length c7, .int .i64 a8, .string a9] 32 (0, 0)) := by rw [hw7]; exact blk_put BM.out 3 _ rfl
 have BRn : w7.heap[gr]? = some (.cells #[.slice none 0 0, .slice none 0 0, .slice none 0 0, .slice none 0 0, .int .u32 0, .slice none 0 0, .int .i64 0, .slice none 0 0, .int .i64 0, .string ⟨#[]⟩] 32 (0, 0)) := by rw [hw7]; exact (Below.heap_setCell _ _ _ gr HNE.out).trans BR.out
 have HBn : Below w.heap.size w w7 := by rw [hw7]; exact below_set HBB.out HGM.out
 replace HO0 := Aside0.mk (show Kd.R (Kd.int .u32) 28 w7 w.heap.size (fun _ => True) (.slice B0 l0.length b0) l0 by rw [hw7]; exact Kd.R_set HO0.out BM.out (by decide) 3 _)
 replace HO1 := Aside0.mk (show Kd.R (Kd.int .u8) 5 w7 w.heap.size (fun _ => True) (.slice B1 l1.length b1) l1 by rw [hw7]; exact Kd.R_set HO1.out BM.out (by decide) 3 _)
 replace HO3 := Aside0.mk (show Kd.R (Kd.int .i64) 3 w7 w.heap.size (fun _ => True) (.slice B3 l3.length b3) l3 by rw [hw7]; exact Kd.R_set HO3.out BM.out (by decide) 3 _)
 rw [← hw7]
 clear hyo hfo hK K hw7 BM BR HBB
 have BM := Aside0.mk BMn
 have BR := Aside0.mk BRn
 have HBB := Aside0.mk HBn
 clear BMn BRn HBn
 refine done_ (n := 0) (by kernel_rfl) ?_
 have BM1 := BM
 have BR1 := BR
 have HB1 := HBB
 clear BM BR HBB
 go_wp2
 have hy2 : w7.cell? ⟨gm, 2, none⟩ = some (.slice A2 l2.length c2) := (blk_cell BM1.out 2).trans rfl
 have hy7 : w7.cell? ⟨gm, 7, none⟩ = some (.slice A7 l7.length c7) := (blk_cell BM1.out 7).trans rfl
 have hy5 : w7.cell? ⟨gm, 5, none⟩ = some (.slice A5 l5.length c5) := (blk_cell BM1.out 5).trans rfl
 replace HO0 := Aside0.mk (Kd.R_drew HO0.out)
 replace HO1 := Aside0.mk (Kd.R_drew HO1.out)
 replace HO3 := Aside0.mk (Kd.R_drew HO3.out)
 refine start_ (n := 15) (S := fun w' => w'.cell? ⟨gm, 2, none⟩ = some (.slice A2 l2.length c2) ∧ w'.cell? ⟨gm, 7, none⟩ = some (.slice A7 l7.length c7) ∧ w'.cell? ⟨gm, 5, none⟩ = some (.slice A5 l5.length c5) ∧ Below w7.heap.size w7 w') (ds := [10, 12, 14]) #[false, false, false, false, false, false, false, false, false, false, false, false, false, false, false] (by kernel_rfl) rfl rfl ⟨hy2, hy7, hy5, below_drew1 (Below.refl w7.heap.size w7)⟩ (fun hHeld => ?_)
 refine pure_ (i := 0) (N := some 17) (v := ?_) (a' := ?_) #[true, false, false, false, false, false, false, false, false, false, false, false, false, false, false] rfl rfl (by kernel_rfl) (fun _ _ _ h => h) (Or.inl ⟨by rfl, ?_⟩) ?_ ?_
 rotate_left
 ·intro w'
  go_simp
  with_reducible rfl
 rotate_left
 ·simp only [Act.put, List.setIfInBounds_toArray, List.set_cons_zero, List.set_cons_succ]
  rfl
 refine pure_ (i := 3) (N := some 20) (v := ?_) (a' := ?_) #[true, false, false, true, false, false, false, false, false, false, false, false, false, false, false] rfl rfl (by kernel_rfl) (fun _ _ _ h => h) (Or.inl ⟨by rfl, ?_⟩) ?_ ?_
 rotate_left
 ·intro w'
  go_simp
  with_reducible rfl
 rotate_left
 ·simp only [Act.put, List.setIfInBounds_toArray, List.set_cons_zero, List.set_cons_succ]
  rfl
 refine pure_ (i := 6) (N := some 23) (v := ?_) (a' := ?_) #[true, false, false, true, false, false, true, false, false, false, false, false, false, false, false] rfl rfl (by kernel_rfl) (fun _ _ _ h => h) (Or.inl ⟨by rfl, ?_⟩) ?_ ?_
 rotate_left
 ·intro w'
  go_simp
  with_reducible rfl
 rotate_left
 ·simp only [Act.put, List.setIfInBounds_toArray, List.set_cons_zero, List.set_cons_succ]
  rfl
 refine take_ (i := 1) (N := some 18) (v := (.slice A2 l2.length c2)) (a' := ?_) #[true, true, false, true, false, false, true, false, false, false, false, false, false, false, false] rfl rfl (by kernel_rfl) (fun _ _ _ h => h) (Or.inl ⟨by rfl, ?_⟩) hHeld ?_ ?_
 rotate_left
 rotate_left
 ·simp only [Act.put, List.setIfInBounds_toArray, List.set_cons_zero, List.set_cons_succ]
  rfl
 rotate_left
 ·rintro w' ⟨s0, s1, s2, s3⟩
  go_simp
 refine take_ (i := 4) (N := some 21) (v := (.slice A7 l7.length c7)) (a' := ?_) #[true, true, false, true, true, false, true, false, false, false, false, false, false, false, false] rfl rfl (by kernel_rfl) (fun _ _ _ h => h) (Or.inl ⟨by rfl, ?_⟩) hHeld ?_ ?_
 rotate_left
 rotate_left
 ·simp only [Act.put, List.setIfInBounds_toArray, List.set_cons_zero, List.set_cons_succ]
  rfl
 rotate_left
 ·rintro w' ⟨s0, s1, s2, s3⟩
  go_simp
 refine take_ (i := 7) (N := some 24) (v := (.slice A5 l5.length c5)) (a' := ?_) #[true, true, false, true, true, false, true, true, false, false, false, false, false, false, false] rfl rfl (by kernel_rfl) (fun _ _ _ h => h) (Or.inl ⟨by rfl, ?_⟩) hHeld ?_ ?_
 rotate_left
 rotate_left
 ·simp only [Act.put, List.setIfInBounds_toArray, List.set_cons_zero, List.set_cons_succ]
  rfl
 rotate_left
 ·rintro w' ⟨s0, s1, s2, s3⟩
  go_simp
 refine one_ (i := 2) (N := some 19) #[true, true, true, true, true, false, true, true, false, false, false, false, false, false, false] rfl rfl (by kernel_rfl) (by decide) (fun K hK => ?_)
 refine goes_ Try.func57 (by kernel_rfl) rfl #[.slice A2 l2.length c2] (by rfl) rfl rfl (by first | rfl | (simp only [List.map_toArray, List.map_cons, List.map_nil]; rfl)) ?_
 refine (HC2.out _ (below_step HB1.out hHeld.2.2.2)).mono ?_
 rintro e w9 ⟨v2, rfl, ho, hb⟩
 obtain ⟨B2, b2, rfl⟩ := Kd.R_slice ho
 rw [HCL2.out] at ho ⊢
 have HO2 := Aside0.mk (Kd.R_lower ho (below_step HB1.out hHeld.2.2.2).size)
 replace HO0 := Aside0.mk (Kd.R_below HO0.out hb)
 replace HO1 := Aside0.mk (Kd.R_below HO1.out hb)
 replace HO3 := Aside0.mk (Kd.R_below HO3.out hb)
 refine ⟨_, rfl, hK.out _ _ ⟨cell_step hHeld.1 hb, cell_step hHeld.2.1 hb, cell_step hHeld.2.2.1 hb, below_step hHeld.2.2.2 hb⟩ (fun hHeld => ?_)⟩
 clear ho hb
 clear hK K
 simp only [Act.put, List.setIfInBounds_toArray, List.set_cons_zero, List.set_cons_succ]
 refine pure_ (i := 9) (N := some 26) (v := ?_) (a' := ?_) #[true, true, true, true, true, false, true, true, false, true, false, false, false, false, false] rfl rfl (by kernel_rfl) (fun _ _ _ h => h) (Or.inl ⟨by rfl, ?_⟩) ?_ ?_
 rotate_left
 ·intro w'
  go_simp
  with_reducible rfl
 rotate_left
 ·simp only [Act.put, List.setIfInBounds_toArray, List.set_cons_zero, List.set_cons_succ]
  rfl
 refine one_ (i := 5) (N := some 22) #[true, true, true, true, true, true, true, true, false, true, false, false, false, false, false] rfl rfl (by kernel_rfl) (by decide) (fun K hK => ?_)
 refine goes_ Try.func58 (by kernel_rfl) rfl #[.slice A7 l7.length c7] (by rfl) rfl rfl (by first | rfl | (simp only [List.map_toArray, List.map_cons, List.map_nil]; rfl)) ?_
 refine (HC7.out _ (below_step HB1.out hHeld.2.2.2)).mono ?_
 rintro e w10 ⟨v7, rfl, ho, hb⟩
 obtain ⟨B7, b7, rfl⟩ := Kd.R_slice ho
 rw [HCL7.out] at ho ⊢
 have HO7 := Aside0.mk (show ∃ bI, (∀ k, (Value.slice B0 l0.length b0).ownBlock = some k → k < bI) ∧ w.heap.size ≤ bI ∧ Kd.R (Kd.raw 4) 82 _ bI (fun _ => True) (.slice B7 l7.length b7) css7 from ⟨_, fun k hk => Kd.R_lt HO0.out k hk, (below_step HB1.out hHeld.2.2.2).size, ho⟩)
 replace HO0 := Aside0.mk (Kd.R_below HO0.out hb)
 replace HO1 := Aside0.mk (Kd.R_below HO1.out hb)
 replace HO3 := Aside0.mk (Kd.R_below HO3.out hb)
 replace HO2 := Aside0.mk (Kd.R_below HO2.out hb)
 refine ⟨_, rfl, hK.out _ _ ⟨cell_step hHeld.1 hb, cell_step hHeld.2.1 hb, cell_step hHeld.2.2.1 hb, below_step hHeld.2.2.2 hb⟩ (fun hHeld => ?_)⟩
 clear ho hb
 clear hK K
 simp only [Act.put, List.setIfInBounds_toArray, List.set_cons_zero, List.set_cons_succ]
 refine one_ (i := 8) (N := some 25) #[true, true, true, true, true, true, true, true, true, true, false, false, false, false, false] rfl rfl (by kernel_rfl) (by decide) (fun K hK => ?_)
 refine goes_ Try.func59 (by kernel_rfl) rfl #[.slice A5 l5.length c5] (by rfl) rfl rfl (by first | rfl | (simp only [List.map_toArray, List.map_cons, List.map_nil]; rfl)) ?_
 refine (HC5.out _ (below_step HB1.out hHeld.2.2.2)).mono ?_
 rintro e w11 ⟨v5, rfl, ho, hb⟩
 obtain ⟨B5, b5, rfl⟩ := Kd.R_slice ho
 have HO5 := Aside0.mk (Kd.R_lower (Kd.R_mono (Kd.R_bound ho) (fun k hk => (⟨fun e => by have := Kd.R_lt HO0.out k e.symm; have := hk.2.1; omega, fun e => by have := Kd.R_lt HO1.out k e.symm; have := hk.2.1; omega⟩ : some k ≠ (Value.slice B0 l0.length b0).ownBlock ∧ some k ≠ (Value.slice B1 l1.length b1).ownBlock))) (below_step HB1.out hHeld.2.2.2).size)
 replace HO0 := Aside0.mk (Kd.R_below HO0.out hb)
 replace HO1 := Aside0.mk (Kd.R_below HO1.out hb)
 replace HO3 := Aside0.mk (Kd.R_below HO3.out hb)
 replace HO2 := Aside0.mk (Kd.R_below HO2.out hb)
 replace HO7 := Aside0.mk (match HO7.out with | ⟨bI, q1, q2, q3⟩ => (⟨bI, q1, q2, Kd.R_below q3 hb⟩ : ∃ bI, (∀ k, (Value.slice B0 l0.length b0).ownBlock = some k → k < bI) ∧ w.heap.size ≤ bI ∧ Kd.R (Kd.raw 4) 82 _ bI (fun _ => True) (.slice B7 l7.length b7) css7))
 refine ⟨_, rfl, hK.out _ _ ⟨cell_step hHeld.1 hb, cell_step hHeld.2.1 hb, cell_step hHeld.2.2.1 hb, below_step hHeld.2.2.2 hb⟩ (fun hHeld => ?_)⟩
 clear ho hb
 clear hK K
 simp only [Act.put, List.setIfInBounds_toArray, List.set_cons_zero, List.set_cons_succ]
 have hm4 : w11.heap[gm]? = some (.cells #[.slice B0 l0.length b0, .slice B1 l1.length b1, .slice A2 l2.length c2, .slice B3 l3.length b3, .int .u32 a4, .slice A5 l5.length c5, .int .i64 a6, .slice A7 l7.length c7, .int .i64 a8, .string a9] 32 (0, 0)) := (hHeld.2.2.2.block gm (blk_lt BM1.out)).trans BM1.out
 have BM := Aside0.mk hm4
 have BR := Aside0.mk ((hHeld.2.2.2.block gr (blk_lt BR1.out)).trans BR1.out)
 have HBB := Aside0.mk (below_step HB1.out hHeld.2.2.2)
 clear hm4 hHeld hy2 hy7 hy5
 refine last_ (i := 10) (N := none) #[true, true, true, true, true, true, true, true, true, true, true, false, false, false, false] rfl rfl (by kernel_rfl) (by decide) (fun K hK => ?_)
 have hyo : w11.cell? ⟨gm, 2, none⟩ = some (.slice A2 l2.length c2) := (blk_cell BM.out 2).trans rfl
 have hfo := blk_frozen BM.out 2
 refine skip_ (w1 := ?_) (by rfl) rfl ?_ ?_
 rotate_left
 ·go_simp
  rfl
 refine hK.out _ _ ?_
 obtain ⟨w12, hw12⟩ : ∃ X, X = w11.setCell ⟨gm, 2, none⟩ (.slice B2 l2.length b2) := ⟨_, rfl⟩
 have BMn : w12.heap[gm]? = some (.cells #[.slice B0 l0.length b0, .slice B1 l1.length b1, .slice B2 l2.length b2, .slice B3 l3.length b3, .int .u32 a4, .slice A5 l5.length c5, .int .i64 a6, .slice A7 l7.length c7, .int .i64 a8, .string a9] 32 (0, 0)) := by rw [hw12]; exact blk_put BM.out 2 _ rfl
 have BRn : w12.heap[gr]? = some (.cells #[.slice none 0 0, .slice none 0 0, .slice none 0 0, .slice none 0 0, .int .u32 0, .slice none 0 0, .int .i64 0, .slice none 0 0, .int .i64 0, .string ⟨#[]⟩] 32 (0, 0)) := by rw [hw12]; exact (Below.heap_setCell _ _ _ gr HNE.out).trans BR.out
 have HBn : Below w.heap.size w w12 := by rw [hw12]; exact below_set HBB.out HGM.out
 replace HO0 := Aside0.mk (show Kd.R (Kd.int .u32) 28 w12 w.heap.size (fun _ => True) (.slice B0 l0.length b0) l0 by rw [hw12]; exact Kd.R_set HO0.out BM.out (by decide) 2 _)
 replace HO1 := Aside0.mk (show Kd.R (Kd.int .u8) 5 w12 w.heap.size (fun _ => True) (.slice B1 l1.length b1) l1 by rw [hw12]; exact Kd.R_set HO1.out BM.out (by decide) 2 _)
 replace HO3 := Aside0.mk (show Kd.R (Kd.int .i64) 3 w12 w.heap.size (fun _ => True) (.slice B3 l3.length b3) l3 by rw [hw12]; exact Kd.R_set HO3.out BM.out (by decide) 2 _)
 replace HO2 := Aside0.mk (show Kd.R (Kd.raw 5) 51 w12 w.heap.size (fun _ => True) (.slice B2 l2.length b2) css2 by rw [hw12]; exact Kd.R_set HO2.out BM.out (by decide) 2 _)
 replace HO7 := Aside0.mk (show ∃ bI, (∀ k, (Value.slice B0 l0.length b0).ownBlock = some k → k < bI) ∧ w.heap.size ≤ bI ∧ Kd.R (Kd.raw 4) 82 w12 bI (fun _ => True) (.slice B7 l7.length b7) css7 by rw [hw12]; obtain ⟨bI, q1, q2, q3⟩ := HO7.out; exact ⟨bI, q1, q2, Kd.R_set q3 BM.out (by decide) 2 _⟩)
 replace HO5 := Aside0.mk (show Kd.R k91 91 w12 w.heap.size (fun k_ => some k_ ≠ (Value.slice B0 l0.length b0).ownBlock ∧ some k_ ≠ (Value.slice B1 l1.length b1).ownBlock) (.slice B5 l5.length b5) l5 by rw [hw12]; exact Kd.R_set HO5.out BM.out (by decide) 2 _)
 rw [← hw12]
 clear hyo hfo hK K hw12 BM BR HBB
 have BM := Aside0.mk BMn
 have BR := Aside0.mk BRn
 have HBB := Aside0.mk HBn
 clear BMn BRn HBn
 refine pure_ (i := 11) (N := some 27) (v := ?_) (a' := ?_) #[true, true, true, true, true, true, true, true, true, true, true, true, false, false, false] rfl rfl (by kernel_rfl) (fun _ _ _ h => h) (Or.inl ⟨by rfl, ?_⟩) ?_ ?_
 rotate_left
 ·intro w'
  go_simp
  with_reducible rfl
 rotate_left
 ·simp only [Act.put, List.setIfInBounds_toArray, List.set_cons_zero, List.set_cons_succ]
  rfl
 refine last_ (i := 12) (N := none) #[true, true, true, true, true, true, true, true, true, true, true, true, true, false, false] rfl rfl (by kernel_rfl) (by decide) (fun K hK => ?_)
 have hyo : w12.cell? ⟨gm, 7, none⟩ = some (.slice A7 l7.length c7) := (blk_cell BM.out 7).trans rfl
 have hfo := blk_frozen BM.out 7
 refine skip_ (w1 := ?_) (by rfl) rfl ?_ ?_
 rotate_left
 ·go_simp
  rfl
 refine hK.out _ _ ?_
 obtain ⟨w13, hw13⟩ : ∃ X, X = w12.setCell ⟨gm, 7, none⟩ (.slice B7 l7.length b7) := ⟨_, rfl⟩
 have BMn : w13.heap[gm]? = some (.cells #[.slice B0 l0.length b0, .slice B1 l1.length b1, .slice B2 l2.length b2, .slice B3 l3.length b3, .int .u32 a4, .slice A5 l5.length c5, .int .i64 a6, .slice B7 l7.length b7, .int .i64 a8, .string a9] 32 (0, 0)) := by rw [hw13]; exact blk_put BM.out 7 _ rfl
 have BRn : w13.heap[gr]? = some (.cells #[.slice none 0 0, .slice none 0 0, .slice none 0 0, .slice none 0 0, .int .u32 0, .slice none 0 0, .int .i64 0, .slice none 0 0, .int .i64 0, .string ⟨#[]⟩] 32 (0, 0)) := by rw [hw13]; exact (Below.heap_setCell _ _ _ gr HNE.out).trans BR.out
 have HBn : Below w.heap.size w w13 := by rw [hw13]; exact below_set HBB.out HGM.out
 replace HO0 := Aside0.mk (show Kd.R (Kd.int .u32) 28 w13 w.heap.size (fun _ => True) (.slice B0 l0.length b0) l0 by rw [hw13]; exact Kd.R_set HO0.out BM.out (by decide) 7 _)
 replace HO1 := Aside0.mk (show Kd.R (Kd.int .u8) 5 w13 w.heap.size (fun _ => True) (.slice B1 l1.length b1) l1 by rw [hw13]; exact Kd.R_set HO1.out BM.out (by decide) 7 _)
 replace HO3 := Aside0.mk (show Kd.R (Kd.int .i64) 3 w13 w.heap.size (fun _ => True) (.slice B3 l3.length b3) l3 by rw [hw13]; exact Kd.R_set HO3.out BM.out (by decide) 7 _)
 replace HO2 := Aside0.mk (show Kd.R (Kd.raw 5) 51 w13 w.heap.size (fun _ => True) (.slice B2 l2.length b2) css2 by rw [hw13]; exact Kd.R_set HO2.out BM.out (by decide) 7 _)
 replace HO7 := Aside0.mk (show ∃ bI, (∀ k, (Value.slice B0 l0.length b0).ownBlock = some k → k < bI) ∧ w.heap.size ≤ bI ∧ Kd.R (Kd.raw 4) 82 w13 bI (fun _ => True) (.slice B7 l7.length b7) css7 by rw [hw13]; obtain ⟨bI, q1, q2, q3⟩ := HO7.out; exact ⟨bI, q1, q2, Kd.R_set q3 BM.out (by decide) 7 _⟩)
 replace HO5 := Aside0.mk (show Kd.R k91 91 w13 w.heap.size (fun k_ => some k_ ≠ (Value.slice B0 l0.length b0).ownBlock ∧ some k_ ≠ (Value.slice B1 l1.length b1).ownBlock) (.slice B5 l5.length b5) l5 by rw [hw13]; exact Kd.R_set HO5.out BM.out (by decide) 7 _)
 rw [← hw13]
 clear hyo hfo hK K hw13 BM BR HBB
 have BM := Aside0.mk BMn
 have BR := Aside0.mk BRn
 have HBB := Aside0.mk HBn
 clear BMn BRn HBn
 refine pure_ (i := 13) (N := some 28) (v := ?_) (a' := ?_) #[true, true, true, true, true, true, true, true, true, true, true, true, true, true, false] rfl rfl (by kernel_rfl) (fun _ _ _ h => h) (Or.inl ⟨by rfl, ?_⟩) ?_ ?_
 rotate_left
 ·intro w'
  go_simp
  with_reducible rfl
 rotate_left
 ·simp only [Act.put, List.setIfInBounds_toArray, List.set_cons_zero, List.set_cons_succ]
  rfl
 refine last_ (i := 14) (N := none) #[true, true, true, true, true, true, true, true, true, true, true, true, true, true, true] rfl rfl (by kernel_rfl) (by decide) (fun K hK => ?_)
 have hyo : w13.cell? ⟨gm, 5, none⟩ = some (.slice A5 l5.length c5) := (blk_cell BM.out 5).trans rfl
 have hfo := blk_frozen BM.out 5
 refine skip_ (w1 := ?_) (by rfl) rfl ?_ ?_
 rotate_left
 ·go_simp
  rfl
 refine hK.out _ _ ?_
 obtain ⟨w14, hw14⟩ : ∃ X, X = w13.setCell ⟨gm, 5, none⟩ (.slice B5 l5.length b5) := ⟨_, rfl⟩
 have BMn : w14.heap[gm]? = some (.cells #[.slice B0 l0.length b0, .slice B1 l1.length b1, .slice B2 l2.length b2, .slice B3 l3.length b3, .int .u32 a4, .slice B5 l5.length b5, .int .i64 a6, .slice B7 l7.length b7, .int .i64 a8, .string a9] 32 (0, 0)) := by rw [hw14]; exact blk_put BM.out 5 _ rfl
 have BRn : w14.heap[gr]? = some (.cells #[.slice none 0 0, .slice none 0 0, .slice none 0 0, .slice none 0 0, .int .u32 0, .slice none 0 0, .int .i64 0, .slice none 0 0, .int .i64 0, .string ⟨#[]⟩] 32 (0, 0)) := by rw [hw14]; exact (Below.heap_setCell _ _ _ gr HNE.out).trans BR.out
 have HBn : Below w.heap.size w w14 := by rw [hw14]; exact below_set HBB.out HGM.out
 replace HO0 := Aside0.mk (show Kd.R (Kd.int .u32) 28 w14 w.heap.size (fun _ => True) (.slice B0 l0.length b0) l0 by rw [hw14]; exact Kd.R_set HO0.out BM.out (by decide) 5 _)
 replace HO1 := Aside0.mk (show Kd.R (Kd.int .u8) 5 w14 w.heap.size (fun _ => True) (.slice B1 l1.length b1) l1 by rw [hw14]; exact Kd.R_set HO1.out BM.out (by decide) 5 _)
 replace HO3 := Aside0.mk (show Kd.R (Kd.int .i64) 3 w14 w.heap.size (fun _ => True) (.slice B3 l3.length b3) l3 by rw [hw14]; exact Kd.R_set HO3.out BM.out (by decide) 5 _)
 replace HO2 := Aside0.mk (show Kd.R (Kd.raw 5) 51 w14 w.heap.size (fun _ => True) (.slice B2 l2.length b2) css2 by rw [hw14]; exact Kd.R_set HO2.out BM.out (by decide) 5 _)
 replace HO7 := Aside0.mk (show ∃ bI, (∀ k, (Value.slice B0 l0.length b0).ownBlock = some k → k < bI) ∧ w.heap.size ≤ bI ∧ Kd.R (Kd.raw 4) 82 w14 bI (fun _ => True) (.slice B7 l7.length b7) css7 by rw [hw14]; obtain ⟨bI, q1, q2, q3⟩ := HO7.out; exact ⟨bI, q1, q2, Kd.R_set q3 BM.out (by decide) 5 _⟩)
 replace HO5 := Aside0.mk (show Kd.R k91 91 w14 w.heap.size (fun k_ => some k_ ≠ (Value.slice B0 l0.length b0).ownBlock ∧ some k_ ≠ (Value.slice B1 l1.length b1).ownBlock) (.slice B5 l5.length b5) l5 by rw [hw14]; exact Kd.R_set HO5.out BM.out (by decide) 5 _)
 rw [← hw14]
 clear hyo hfo hK K hw14 BM BR HBB
 have BM := Aside0.mk BMn
 have BR := Aside0.mk BRn
 have HBB := Aside0.mk HBn
 clear BMn BRn HBn
 refine done_ (n := 0) (by kernel_rfl) ?_
 have BM2 := BM
 have BR2 := BR
 have HB2 := HBB
 clear BM BR HBB
 have HRA := Aside0.mk (⟨HO0.out, HO1.out, HO3.out⟩ : RA w.heap.size (.slice B0 l0.length b0) (.slice B1 l1.length b1) (.slice B3 l3.length b3) l0 l1 l3 w14)
 have HWP := Aside0.mk (WP_start (d := k51) HO2.out HCL2.out HCK2.out)
 clear HO0 HO1 HO3 HO2 HB0 HB1 BM0 BM1 BR0 BR1 HC0 HC1 HC3 HC2 HC7 HC5 HCK2
 have hz : w14.cell? ⟨gm, 2, none⟩ = some (.slice B2 l2.length b2) := (blk_cell BM2.out 2).trans rfl
 have HO7I := HO7
 clear HO7
 go_wp2
 go_loopg [32] l2.length (fun kq v32 w' => ∃ i : Nat, v32 = .int .i64 i ∧ Aside0 (i + kq = l2.length) ∧ Aside0 (WP k51 51 w w' w.heap.size (.slice B2 l2.length b2) i l2) ∧ Aside0 (RA w.heap.size (.slice B0 l0.length b0) (.slice B1 l1.length b1) (.slice B3 l3.length b3) l0 l1 l3 w') ∧ Aside0 (Kd.R k91 91 w' w.heap.size (fun k_ => some k_ ≠ (Value.slice B0 l0.length b0).ownBlock ∧ some k_ ≠ (Value.slice B1 l1.length b1).ownBlock) (.slice B5 l5.length b5) l5) ∧ Aside0 (∃ bI, (∀ k, (Value.slice B0 l0.length b0).ownBlock = some k → k < bI) ∧ w.heap.size ≤ bI ∧ Kd.R (Kd.raw 4) 82 w' bI (fun _ => True) (.slice B7 l7.length b7) css7) ∧ Aside0 (w'.heap[gm]? = some (.cells #[.slice B0 l0.length b0, .slice B1 l1.length b1, .slice B2 l2.length b2, .slice B3 l3.length b3, .int .u32 a4, .slice B5 l5.length b5, .int .i64 a6, .slice B7 l7.length b7, .int .i64 a8, .string a9] 32 (0, 0))) ∧ Aside0 (w'.heap[gr]? = some (.cells #[.slice none 0 0, .slice none 0 0, .slice none 0 0, .slice none 0 0, .int .u32 0, .slice none 0 0, .int .i64 0, .slice none 0 0, .int .i64 0, .string ⟨#[]⟩] 32 (0, 0))) ∧ Aside0 (Below w.heap.size w w'))
 case atStart => exact ⟨0, rfl, ⟨by omega⟩, HWP, HRA, HO5, HO7I, BM2, BR2, HB2⟩
 case round =>
  clear HWP HRA HO5 HO7I BM2 BR2 HB2 hz
  obtain ⟨i, rfl, HI, HP, HRA, HO5, HO7, BM, BR, HB⟩ := hrel
  rename World => wa
  cases gk with
  | zero =>
   have hlt : decide ((i : Int) < (l2.length : Int)) = false := decide_eq_false (by have := HI.out; omega)
   have hltN : decide (i < l2.length) = false := decide_eq_false (by have := HI.out; omega)
   have HEND := Aside0.mk (WP_end (by have h := HP.out; rw [show i = l2.length by have := HI.out; omega] at h; exact h))
   have hz : wa.cell? ⟨gm, 7, none⟩ = some (.slice B7 l7.length b7) := (blk_cell BM.out 7).trans rfl
   obtain ⟨bI, q1, q2, q3⟩ := HO7.out
   have Hq1 := Aside0.mk q1
   have HbI := Aside0.mk q2
   have HWPn := Aside0.mk (WP_start (d := k82) q3 HCL7.out HCK7.out)
   clear q1 q2 q3 HP HO7 HI
   have HWP := HWPn
   have HS2I := HEND
   clear HWPn HEND
   go_wp2
   go_loopg [51] l7.length (fun kq v51 w' => ∃ i : Nat, v51 = .int .i64 i ∧ Aside0 (i + kq = l7.length) ∧ Aside0 (WP k82 82 w w' bI (.slice B7 l7.length b7) i l7) ∧ Aside0 (RA w.heap.size (.slice B0 l0.length b0) (.slice B1 l1.length b1) (.slice B3 l3.length b3) l0 l1 l3 w') ∧ Aside0 (Kd.R k91 91 w' w.heap.size (fun k_ => some k_ ≠ (Value.slice B0 l0.length b0).ownBlock ∧ some k_ ≠ (Value.slice B1 l1.length b1).ownBlock) (.slice B5 l5.length b5) l5) ∧ Aside0 (Kd.S k51 51 w' w.heap.size (fun _ => True) (.slice B2 l2.length b2) l2) ∧ Aside0 (w'.heap[gm]? = some (.cells #[.slice B0 l0.length b0, .slice B1 l1.length b1, .slice B2 l2.length b2, .slice B3 l3.length b3, .int .u32 a4, .slice B5 l5.length b5, .int .i64 a6, .slice B7 l7.length b7, .int .i64 a8, .string a9] 32 (0, 0))) ∧ Aside0 (w'.heap[gr]? = some (.cells #[.slice none 0 0, .slice none 0 0, .slice none 0 0, .slice none 0 0, .int .u32 0, .slice none 0 0, .int .i64 0, .slice none 0 0, .int .i64 0, .string ⟨#[]⟩] 32 (0, 0))) ∧ Aside0 (Below w.heap.size w w'))
   case atStart => exact ⟨0, rfl, ⟨by omega⟩, HWP, HRA, HO5, HS2I, BM, BR, HB⟩
   case round =>
    clear HWP HRA HO5 HS2I BM BR HB hz
    obtain ⟨i, rfl, HI, HP, HRA, HO5, HS2, BM, BR, HB⟩ := hrel
    rename World => wb
    cases gk with
    | zero =>
     have hlt : decide ((i : Int) < (l7.length : Int)) = false := decide_eq_false (by have := HI.out; omega)
     have hltN : decide (i < l7.length) = false := decide_eq_false (by have := HI.out; omega)
     have HEND := Aside0.mk (WP_end (by have h := HP.out; rw [show i = l7.length by have := HI.out; omega] at h; exact h))
     have hz : wb.cell? ⟨gm, 0, none⟩ = some (.slice B0 l0.length b0) := (blk_cell BM.out 0).trans rfl
     have hz1 : wb.cell? ⟨gm, 1, none⟩ = some (.slice B1 l1.length b1) := (blk_cell BM.out 1).trans rfl
     have hz2 : wb.cell? ⟨gm, 2, none⟩ = some (.slice B2 l2.length b2) := (blk_cell BM.out 2).trans rfl
     have hz3 : wb.cell? ⟨gm, 3, none⟩ = some (.slice B3 l3.length b3) := (blk_cell BM.out 3).trans rfl
     have hz4 : wb.cell? ⟨gm, 4, none⟩ = some (.int .u32 a4) := (blk_cell BM.out 4).trans rfl
     have hz5 : wb.cell? ⟨gm, 5, none⟩ = some (.slice B5 l5.length b5) := (blk_cell BM.out 5).trans rfl
     have hz6 : wb.cell? ⟨gm, 6, none⟩ = some (.int .i64 a6) := (blk_cell BM.out 6).trans rfl
     have hz7 : wb.cell? ⟨gm, 7, none⟩ = some (.slice B7 l7.length b7) := (blk_cell BM.out 7).trans rfl
     have hz8 : wb.cell? ⟨gm, 8, none⟩ = some (.int .i64 a8) := (blk_cell BM.out 8).trans rfl
     have hz9 : wb.cell? ⟨gm, 9, none⟩ = some (.string a9) := (blk_cell BM.out 9).trans rfl
     have hr0 : wb.cell? ⟨gr, 0, none⟩ = some (.slice none 0 0) := (blk_cell BR.out 0).trans rfl
     have hr1 : wb.cell? ⟨gr, 1, none⟩ = some (.slice none 0 0) := (blk_cell BR.out 1).trans rfl
     have hr2 : wb.cell? ⟨gr, 2, none⟩ = some (.slice none 0 0) := (blk_cell BR.out 2).trans rfl
     have hr3 : wb.cell? ⟨gr, 3, none⟩ = some (.slice none 0 0) := (blk_cell BR.out 3).trans rfl
     have hr4 : wb.cell? ⟨gr, 4, none⟩ = some (.int .u32 0) := (blk_cell BR.out 4).trans rfl
     have hr5 : wb.cell? ⟨gr, 5, none⟩ = some (.slice none 0 0) := (blk_cell BR.out 5).trans rfl
     have hr6 : wb.cell? ⟨gr, 6, none⟩ = some (.int .i64 0) := (blk_cell BR.out 6).trans rfl
     have hr7 : wb.cell? ⟨gr, 7, none⟩ = some (.slice none 0 0) := (blk_cell BR.out 7).trans rfl
     have hr8 : wb.cell? ⟨gr, 8, none⟩ = some (.int .i64 0) := (blk_cell BR.out 8).trans rfl
     have hr9 : wb.cell? ⟨gr, 9, none⟩ = some (.string ⟨#[]⟩) := (blk_cell BR.out 9).trans rfl
     have hf0 := blk_frozen BR.out 0
     have hf1 := blk_frozen BR.out 1
     have hf2 := blk_frozen BR.out 2
     have hf3 := blk_frozen BR.out 3
     have hf4 := blk_frozen BR.out 4
     have hf5 := blk_frozen BR.out 5
     have hf6 := blk_frozen BR.out 6
     have hf7 := blk_frozen BR.out 7
     have hf8 := blk_frozen BR.out 8
     have hf9 := blk_frozen BR.out 9
     go_wp2
     have g0 : (setAll wb gr [.slice B0 l0.length b0, .slice B1 l1.length b1, .slice B2 l2.length b2, .slice B3 l3.length b3, .int .u32 a4, .slice B5 l5.length b5, .int .i64 a6, .slice B7 l7.length b7, .int .i64 a8, .string a9] 0).heap[gr]? = some (.cells #[.slice B0 l0.length b0, .slice B1 l1.length b1, .slice B2 l2.length b2, .slice B3 l3.length b3, .int .u32 a4, .slice B5 l5.length b5, .int .i64 a6, .slice B7 l7.length b7, .int .i64 a8, .string a9] 32 (0, 0)) := by
      rw [setAll_blk [.slice B0 l0.length b0, .slice B1 l1.length b1, .slice B2 l2.length b2, .slice B3 l3.length b3, .int .u32 a4, .slice B5 l5.length b5, .int .i64 a6, .slice B7 l7.length b7, .int .i64 a8, .string a9] 0 wb _ BR.out]
      simp [setA]
     have HS7 : Kd.S k82 82 wb w.heap.size (fun k_ => some k_ ≠ (Value.slice B0 l0.length b0).ownBlock) (.slice B7 l7.length b7) l7 := Kd.S_lower (S_old_ne HEND.out Hq1.out) HbI.out
     refine bodyPost_ret (v := .agg #[.slice B0 l0.length b0, .slice B1 l1.length b1, .slice B2 l2.length b2, .slice B3 l3.length b3, .int .u32 a4, .slice B5 l5.length b5, .int .i64 a6, .slice B7 l7.length b7, .int .i64 a8, .string a9]) (results_cell_row Try.results28 _ _ gr 32 #[.slice B0 l0.length b0, .slice B1 l1.length b1, .slice B2 l2.length b2, .slice B3 l3.length b3, .int .u32 a4, .slice B5 l5.length b5, .int .i64 a6, .slice B7 l7.length b7, .int .i64 a8, .string a9] (0, 0) _ rfl g0 hu32 rfl (by kernel_rfl)) rfl ⟨.slice B0 l0.length b0, .slice B1 l1.length b1, .slice B2 l2.length b2, .slice B3 l3.length b3, .slice B5 l5.length b5, .slice B7 l7.length b7, rfl, ?_, ?_, ?_, ?_, ?_, ?_, ?_⟩
     ·exact setAll_R (by decide) [.slice B0 l0.length b0, .slice B1 l1.length b1, .slice B2 l2.length b2, .slice B3 l3.length b3, .int .u32 a4, .slice B5 l5.length b5, .int .i64 a6, .slice B7 l7.length b7, .int .i64 a8, .string a9] 0 wb _ BR.out HRA.out.1
     ·exact setAll_R (by decide) [.slice B0 l0.length b0, .slice B1 l1.length b1, .slice B2 l2.length b2, .slice B3 l3.length b3, .int .u32 a4, .slice B5 l5.length b5, .int .i64 a6, .slice B7 l7.length b7, .int .i64 a8, .string a9] 0 wb _ BR.out HRA.out.2.1
     ·exact setAll_S (by decide) [.slice B0 l0.length b0, .slice B1 l1.length b1, .slice B2 l2.length b2, .slice B3 l3.length b3, .int .u32 a4, .slice B5 l5.length b5, .int .i64 a6, .slice B7 l7.length b7, .int .i64 a8, .string a9] 0 wb _ BR.out HS2.out
     ·exact setAll_R (by decide) [.slice B0 l0.length b0, .slice B1 l1.length b1, .slice B2 l2.length b2, .slice B3 l3.length b3, .int .u32 a4, .slice B5 l5.length b5, .int .i64 a6, .slice B7 l7.length b7, .int .i64 a8, .string a9] 0 wb _ BR.out HRA.out.2.2
     ·exact setAll_R (by decide) [.slice B0 l0.length b0, .slice B1 l1.length b1, .slice B2 l2.length b2, .slice B3 l3.length b3, .int .u32 a4, .slice B5 l5.length b5, .int .i64 a6, .slice B7 l7.length b7, .int .i64 a8, .string a9] 0 wb _ BR.out HO5.out
     ·exact setAll_S (by decide) [.slice B0 l0.length b0, .slice B1 l1.length b1, .slice B2 l2.length b2, .slice B3 l3.length b3, .int .u32 a4, .slice B5 l5.length b5, .int .i64 a6, .slice B7 l7.length b7, .int .i64 a8, .string a9] 0 wb _ BR.out HS7
     ·exact setAll_below HGR.out [.slice B0 l0.length b0, .slice B1 l1.length b1, .slice B2 l2.length b2, .slice B3 l3.length b3, .int .u32 a4, .slice B5 l5.length b5, .int .i64 a6, .slice B7 l7.length b7, .int .i64 a8, .string a9] 0 wb HB.out
    | succ k1 =>
     have hi := HI.out
     have hlt : decide ((i : Int) < (l7.length : Int)) = true := decide_eq_true (by omega)
     have hltN : decide (i < l7.length) = true := decide_eq_true (by omega)
     have p1 : (0 ≤ (i : Int)) = True := eq_true (by omega)
     have p2 : ((i : Int) < (l7.length : Int)) = True := eq_true (by omega)
     have hwr : IntKind.i64.wrap ((i : Int) + 1) = ((i + 1 : Nat) : Int) := (i64_w _).trans (by unfold wrap64; have := HL7.out; omega)
     have hwr2 : wrap64 ((i : Int) + 1) = ((i + 1 : Nat) : Int) := by unfold wrap64; have := HL7.out; omega
     obtain ⟨g, cap, cur, hv2, hp⟩ := WP_open HP.out (by omega)
     obtain ⟨hqB, hqb⟩ : B7 = some ⟨g, 0, none⟩ ∧ b7 = cap := by injection hv2 with h1 _ h3; exact ⟨h1, h3⟩
     clear hv2
     subst hqB
     subst hqb
     obtain ⟨x, cs, hx, hseg, hK, hcell⟩ := PR_cell (PX_PR hp) (by omega)
     obtain ⟨A, cA, rfl, hlA, hgA⟩ := k82_open hK
     have hyA : wb.cell? ⟨g, i * 4 + 3, none⟩ = some (.slice A x.f3.length cA) := hcell 3 _ rfl
     have hy0 : wb.cell? ⟨gm, 7, none⟩ = some (.slice (some ⟨g, 0, none⟩) l7.length b7) := (blk_cell BM.out 7).trans rfl
     have HCO := Aside0.mk (fun (W : World) (hb : Below wb.heap.size wb W) => cloneU32_calls A cA x.f3 W (Kd.C_below (Kd.C_below hgA HB.out) hb) (HG7.out x (List.mem_of_getElem? hx)))
     have HX := Aside0.mk hx
     have HSG := Aside0.mk hseg
     have HPP := Aside0.mk hp
     have HPR := Aside0.mk (PX_PR hp)
     clear hx hseg hK hcell hp hlA hgA hi
     go_wp2
     refine start_ (n := 13) (S := fun w' => w'.cell? ⟨gm, 7, none⟩ = some (.slice (some ⟨g, 0, none⟩) l7.length b7) ∧ w'.cell? ⟨g, i * 4 + 3, none⟩ = some (.slice A x.f3.length cA) ∧ Below wb.heap.size wb w') (ds := [12]) #[false, false, false, false, false, false, false, false, false, false, false, false, false] (by kernel_rfl) rfl rfl ⟨hy0, hyA, below_drew1 (Below.refl wb.heap.size wb)⟩ (fun hHeld => ?_)
     refine pure_ (i := 0) (N := some 54) (v := ?_) (a' := ?_) #[true, false, false, false, false, false, false, false, false, false, false, false, false] rfl rfl (by kernel_rfl) (fun _ _ _ h => h) (Or.inl ⟨by rfl, ?_⟩) ?_ ?_
     rotate_left
     ·intro w'
      go_simp
      with_reducible rfl
     rotate_left
     ·simp only [Act.put, List.setIfInBounds_toArray, List.set_cons_zero, List.set_cons_succ]
      rfl
     refine pure_ (i := 2) (N := some 56) (v := ?_) (a' := ?_) #[true, false, true, false, false, false, false, false, false, false, false, false, false] rfl rfl (by kernel_rfl) (fun _ _ _ h => h) (Or.inl ⟨by rfl, ?_⟩) ?_ ?_
     rotate_left
     ·intro w'
      go_simp
      with_reducible rfl
     rotate_left
     ·simp only [Act.put, List.setIfInBounds_toArray, List.set_cons_zero, List.set_cons_succ]
      rfl
     refine pure_ (i := 3) (N := some 57) (v := ?_) (a' := ?_) #[true, false, true, true, false, false, false, false, false, false, false, false, false] rfl rfl (by kernel_rfl) (fun _ _ _ h => h) (Or.inl ⟨by rfl, ?_⟩) ?_ ?_
     rotate_left
     ·intro w'
      go_simp
      with_reducible rfl
     rotate_left
     ·simp only [Act.put, List.setIfInBounds_toArray, List.set_cons_zero, List.set_cons_succ]
      rfl
     refine pure_ (i := 5) (N := some 59) (v := ?_) (a' := ?_) #[true, false, true, true, false, true, false, false, false, false, false, false, false] rfl rfl (by kernel_rfl) (fun _ _ _ h => h) (Or.inl ⟨by rfl, ?_⟩) ?_ ?_
     rotate_left
     ·intro w'
      go_simp
      with_reducible rfl
     rotate_left
     ·simp only [Act.put, List.setIfInBounds_toArray, List.set_cons_zero, List.set_cons_succ]
      rfl
     refine take_ (i := 1) (N := some 55) (v := (.slice (some ⟨g, 0, none⟩) l7.length b7)) (a' := ?_) #[true, true, true, true, false, true, false, false, false, false, false, false, false] rfl rfl (by kernel_rfl) (fun _ _ _ h => h) (Or.inl ⟨by rfl, ?_⟩) hHeld ?_ ?_
     rotate_left
     rotate_left
     ·simp only [Act.put, List.setIfInBounds_toArray, List.set_cons_zero, List.set_cons_succ]
      rfl
     rotate_left
     ·rintro w' ⟨s0, s1, s2⟩
      go_simp
     refine take_ (i := 4) (N := some 58) (v := (.slice (some ⟨g, 0, none⟩) l7.length b7)) (a' := ?_) #[true, true, true, true, true, true, false, false, false, false, false, false, false] rfl rfl (by kernel_rfl) (fun _ _ _ h => h) (Or.inl ⟨by rfl, ?_⟩) hHeld ?_ ?_
     rotate_left
     rotate_left
     ·simp only [Act.put, List.setIfInBounds_toArray, List.set_cons_zero, List.set_cons_succ]
      rfl
     rotate_left
     ·rintro w' ⟨s0, s1, s2⟩
      go_simp
     refine pure_ (i := 6) (N := some 60) (v := ?_) (a' := ?_) #[true, true, true, true, true, true, true, false, false, false, false, false, false] rfl rfl (by kernel_rfl) (fun _ _ _ h => h) (Or.inl ⟨by rfl, ?_⟩) ?_ ?_
     rotate_left
     ·intro w'
      go_simp
      with_reducible rfl
     rotate_left
     ·simp only [Act.put, List.setIfInBounds_toArray, List.set_cons_zero, List.set_cons_succ]
      rfl
     refine pure_ (i := 7) (N := some 61) (v := ?_) (a' := ?_) #[true, true, true, true, true, true, true, true, false, false, false, false, false] rfl rfl (by kernel_rfl) (fun _ _ _ h => h) (Or.inl ⟨by rfl, ?_⟩) ?_ ?_
     rotate_left
     ·intro w'
      go_simp
      with_reducible rfl
     rotate_left
     ·simp only [Act.put, List.setIfInBounds_toArray, List.set_cons_zero, List.set_cons_succ]
      rfl
     refine take_ (i := 8) (N := some 62) (v := (.slice A x.f3.length cA)) (a' := ?_) #[true, true, true, true, true, true, true, true, true, false, false, false, false] rfl rfl (by kernel_rfl) (fun _ _ _ h => h) (Or.inl ⟨by rfl, ?_⟩) hHeld ?_ ?_
     rotate_left
     rotate_left
     ·simp only [Act.put, List.setIfInBounds_toArray, List.set_cons_zero, List.set_cons_succ]
      rfl
     rotate_left
     ·rintro w' ⟨s0, s1, s2⟩
      go_simp
     refine one_ (i := 9) (N := some 63) #[true, true, true, true, true, true, true, true, true, true, false, false, false] rfl rfl (by kernel_rfl) (by decide) (fun K hK => ?_)
     refine goes_ Try.func54 (by kernel_rfl) rfl #[.slice A x.f3.length cA] (by rfl) rfl rfl (by first | rfl | (simp only [List.map_toArray, List.map_cons, List.map_nil]; rfl)) ?_
     refine (HCO.out _ hHeld.2.2).mono ?_
     rintro e w2c ⟨v4, rfl, ho, hb⟩
     obtain ⟨B4, b4, rfl⟩ := Kd.R_slice ho
     have HO4 := Aside0.mk (Kd.R_lower ho hHeld.2.2.size)
     refine ⟨_, rfl, hK.out _ _ ⟨cell_step hHeld.1 hb, cell_step hHeld.2.1 hb, below_step hHeld.2.2 hb⟩ (fun hHeld => ?_)⟩
     clear ho hb
     clear hK K
     simp only [Act.put, List.setIfInBounds_toArray, List.set_cons_zero, List.set_cons_succ]
     refine pure_ (i := 10) (N := some 64) (v := ?_) (a' := ?_) #[true, true, true, true, true, true, true, true, true, true, true, false, false] rfl rfl (by kernel_rfl) (fun _ _ _ h => h) (Or.inl ⟨by rfl, ?_⟩) ?_ ?_
     rotate_left
     ·intro w'
      go_simp
      with_reducible rfl
     rotate_left
     ·simp only [Act.put, List.setIfInBounds_toArray, List.set_cons_zero, List.set_cons_succ]
      rfl
     refine pure_ (i := 11) (N := some 65) (v := ?_) (a' := ?_) #[true, true, true, true, true, true, true, true, true, true, true, true, false] rfl rfl (by kernel_rfl) (fun _ _ _ h => h) (Or.inl ⟨by rfl, ?_⟩) ?_ ?_
     rotate_left
     ·intro w'
      go_simp
      with_reducible rfl
     rotate_left
     ·simp only [Act.put, List.setIfInBounds_toArray, List.set_cons_zero, List.set_cons_succ]
      rfl
     refine last_ (i := 12) (N := none) #[true, true, true, true, true, true, true, true, true, true, true, true, true] rfl rfl (by kernel_rfl) (by decide) (fun K hK => ?_)
     have hh : w2c.heap[g]? = some (.cells cur 82 (0, 0)) := (hHeld.2.2.block g (blk_lt HPR.out.1)).trans HPR.out.1
     have hsz : i * 4 + 3 < cur.size := by have h1 := HPR.out.2.2.2.2.2.1; have h2 := HPR.out.2.2.2.1; have h3 := HI.out; have h4 : cur.size = b7 * 4 := h1; omega
     have hyo := hHeld.2.1
     have hfo := blk_frozen hh (i * 4 + 3)
     have hb12 := hHeld.2.2
     refine skip_ (w1 := ?_) (by rfl) rfl ?_ ?_
     rotate_left
     ·go_simp
      rfl
     refine hK.out _ _ ?_
     obtain ⟨cur5, hh5, hs5, ht5, hg5⟩ := put_row hh (.slice B4 x.f3.length b4) hsz
     obtain ⟨w3c, hw3⟩ : ∃ X, X = w2c.setCell ⟨g, i * 4 + 3, none⟩ (.slice B4 x.f3.length b4) := ⟨_, rfl⟩
     rw [← hw3] at hh5
     rw [← hw3]
     have hbm := (hb12.block gm (blk_lt BM.out)).trans BM.out
     have hbr := (hb12.block gr (blk_lt BR.out)).trans BR.out
     have HRA3 := Aside0.mk (show RA w.heap.size (.slice B0 l0.length b0) (.slice B1 l1.length b1) (.slice B3 l3.length b3) l0 l1 l3 w3c by rw [hw3]; exact RA_set (RA_below HRA.out hb12) hh (by decide) _ _)
     have HO53 := Aside0.mk (show Kd.R k91 91 w3c w.heap.size (fun k_ => some k_ ≠ (Value.slice B0 l0.length b0).ownBlock ∧ some k_ ≠ (Value.slice B1 l1.length b1).ownBlock) (.slice B5 l5.length b5) l5 by rw [hw3]; exact Kd.R_set (Kd.R_below HO5.out hb12) hh (by decide) _ _)
     have HS23 := Aside0.mk (show Kd.S k51 51 w3c w.heap.size (fun _ => True) (.slice B2 l2.length b2) l2 by rw [hw3]; exact Kd.S_set (Kd.S_below HS2.out hb12) hh (by decide) _ _)
     have BM3 := Aside0.mk (show w3c.heap[gm]? = some (.cells #[.slice B0 l0.length b0, .slice B1 l1.length b1, .slice B2 l2.length b2, .slice B3 l3.length b3, .int .u32 a4, .slice B5 l5.length b5, .int .i64 a6, .slice (some ⟨g, 0, none⟩) l7.length b7, .int .i64 a8, .string a9] 32 (0, 0)) by rw [hw3]; exact (Below.heap_setCell _ _ _ gm (blk_ne hbm hh (by decide))).trans hbm)
     have BR3 := Aside0.mk (show w3c.heap[gr]? = some (.cells #[.slice none 0 0, .slice none 0 0, .slice none 0 0, .slice none 0 0, .int .u32 0, .slice none 0 0, .int .i64 0, .slice none 0 0, .int .i64 0, .string ⟨#[]⟩] 32 (0, 0)) by rw [hw3]; exact (Below.heap_setCell _ _ _ gr (blk_ne hbr hh (by decide))).trans hbr)
     have HB3 := Aside0.mk (show Below w.heap.size w w3c by rw [hw3]; exact below_set (below_step HB.out hb12) (Nat.le_trans HbI.out HPR.out.2.1))
     have hgl : g < wb.heap.size := blk_lt HPR.out.1
     have hr4 : Kd.R (Kd.int .u32) 28 w3c wb.heap.size (fun k => k ≠ g) (.slice B4 x.f3.length b4) x.f3 := by rw [hw3]; exact Kd.R_set (R_ge HO4.out hgl) hh (by decide) _ _
     have HWP3 := Aside0.mk (show WP k82 82 w w3c bI (.slice (some ⟨g, 0, none⟩) l7.length b7) (i + 1) l7 from .inr ⟨g, b7, cur5, rfl, PX_put HPP.out HX.out hh5 hs5 (fun j hj => by rw [ht5]; exact seg82_ne _ _ _ _ hj) (by rw [ht5, show seg (cur.toList.set (i * 4 + 3) (.slice B4 x.f3.length b4)) k82.sz i = _ from seg82 _ _ _ _ _ _ _ HSG.out.symm]; exact k82_mkM _ _ _ _ (Kd.R_lower (Kd.R_mono (Kd.R_bound hr4) (fun k hk => ⟨hk.1, hk.2.1⟩)) (Nat.le_of_lt (Nat.lt_of_le_of_lt HPR.out.2.1 hgl)))) (fun k h5 h6 => by rw [hw3]; exact (Below.heap_setCell _ _ _ k h5).trans (hb12.block k h6))⟩)
     clear hK K hh hsz hyo hfo hb12 hh5 hs5 ht5 hg5 hw3 hbm hbr hgl hr4 hHeld hyA hy0
     refine done_ (n := 0) (by kernel_rfl) ?_
     go_wp2
     go_roundg k1
     case measure => omega
     case rel => exact ⟨i + 1, rfl, ⟨by have := HI.out; omega⟩, HWP3, HRA3, HO53, HS23, BM3, BR3, HB3⟩
  | succ k1 =>
   have hi := HI.out
   have hlt : decide ((i : Int) < (l2.length : Int)) = true := decide_eq_true (by omega)
   have hltN : decide (i < l2.length) = true := decide_eq_true (by omega)
   have p1 : (0 ≤ (i : Int)) = True := eq_true (by omega)
   have p2 : ((i : Int) < (l2.length : Int)) = True := eq_true (by omega)
   have hwr : IntKind.i64.wrap ((i : Int) + 1) = ((i + 1 : Nat) : Int) := (i64_w _).trans (by unfold wrap64; have := HL2.out; omega)
   have hwr2 : wrap64 ((i : Int) + 1) = ((i + 1 : Nat) : Int) := by unfold wrap64; have := HL2.out; omega
   obtain ⟨g, cap, cur, hv2, hp⟩ := WP_open HP.out (by omega)
   obtain ⟨hqB, hqb⟩ : B2 = some ⟨g, 0, none⟩ ∧ b2 = cap := by injection hv2 with h1 _ h3; exact ⟨h1, h3⟩
   clear hv2
   subst hqB
   subst hqb
   obtain ⟨x, cs, hx, hseg, hK, hcell⟩ := PR_cell (PX_PR hp) (by omega)
   obtain ⟨A, cA, rfl, hlA, hgA⟩ := k51_open hK
   have hyA : wa.cell? ⟨g, i * 5 + 4, none⟩ = some (.slice A x.f4.length cA) := hcell 4 _ rfl
   have hy0 : wa.cell? ⟨gm, 2, none⟩ = some (.slice (some ⟨g, 0, none⟩) l2.length b2) := (blk_cell BM.out 2).trans rfl
   have HCO := Aside0.mk (fun (W : World) (hb : Below wa.heap.size wa W) => cloneOp_calls A cA x.f4 W (Kd.C_below (Kd.C_below hgA HB.out) hb) (HG2.out x (List.mem_of_getElem? hx)))
   have HX := Aside0.mk hx
   have HSG := Aside0.mk hseg
   have HPP := Aside0.mk hp
   have HPR := Aside0.mk (PX_PR hp)
   clear hx hseg hK hcell hp hlA hgA hi
   go_wp2
   refine start_ (n := 13) (S := fun w' => w'.cell? ⟨gm, 2, none⟩ = some (.slice (some ⟨g, 0, none⟩) l2.length b2) ∧ w'.cell? ⟨g, i * 5 + 4, none⟩ = some (.slice A x.f4.length cA) ∧ Below wa.heap.size wa w') (ds := [12]) #[false, false, false, false, false, false, false, false, false, false, false, false, false] (by kernel_rfl) rfl rfl ⟨hy0, hyA, below_drew1 (Below.refl wa.heap.size wa)⟩ (fun hHeld => ?_)
   refine pure_ (i := 0) (N := some 35) (v := ?_) (a' := ?_) #[true, false, false, false, false, false, false, false, false, false, false, false, false] rfl rfl (by kernel_rfl) (fun _ _ _ h => h) (Or.inl ⟨by rfl, ?_⟩) ?_ ?_
   rotate_left
   ·intro w'
    go_simp
    with_reducible rfl
   rotate_left
   ·simp only [Act.put, List.setIfInBounds_toArray, List.set_cons_zero, List.set_cons_succ]
    rfl
   refine pure_ (i := 2) (N := some 37) (v := ?_) (a' := ?_) #[true, false, true, false, false, false, false, false, false, false, false, false, false] rfl rfl (by kernel_rfl) (fun _ _ _ h => h) (Or.inl ⟨by rfl, ?_⟩) ?_ ?_
   rotate_left
   ·intro w'
    go_simp
    with_reducible rfl
   rotate_left
   ·simp only [Act.put, List.setIfInBounds_toArray, List.set_cons_zero, List.set_cons_succ]
    rfl
   refine pure_ (i := 3) (N := some 38) (v := ?_) (a' := ?_) #[true, false, true, true, false, false, false, false, false, false, false, false, false] rfl rfl (by kernel_rfl) (fun _ _ _ h => h) (Or.inl ⟨by rfl, ?_⟩) ?_ ?_
   rotate_left
   ·intro w'
    go_simp
    with_reducible rfl
   rotate_left
   ·simp only [Act.put, List.setIfInBounds_toArray, List.set_cons_zero, List.set_cons_succ]
    rfl
   refine pure_ (i := 5) (N := some 40) (v := ?_) (a' := ?_) #[true, false, true, true, false, true, false, false, false, false, false, false, false] rfl rfl (by kernel_rfl) (fun _ _ _ h => h) (Or.inl ⟨by rfl, ?_⟩) ?_ ?_
   rotate_left
   ·intro w'
    go_simp
    with_reducible rfl
   rotate_left
   ·simp only [Act.put, List.setIfInBounds_toArray, List.set_cons_zero, List.set_cons_succ]
    rfl
   refine take_ (i := 1) (N := some 36) (v := (.slice (some ⟨g, 0, none⟩) l2.length b2)) (a' := ?_) #[true, true, true, true, false, true, false, false, false, false, false, false, false] rfl rfl (by kernel_rfl) (fun _ _ _ h => h) (Or.inl ⟨by rfl, ?_⟩) hHeld ?_ ?_
   rotate_left
   rotate_left
   ·simp only [Act.put, List.setIfInBounds_toArray, List.set_cons_zero, List.set_cons_succ]
    rfl
   rotate_left
   ·rintro w' ⟨s0, s1, s2⟩
    go_simp
   refine take_ (i := 4) (N := some 39) (v := (.slice (some ⟨g, 0, none⟩) l2.length b2)) (a' := ?_) #[true, true, true, true, true, true, false, false, false, false, false, false, false] rfl rfl (by kernel_rfl) (fun _ _ _ h => h) (Or.inl ⟨by rfl, ?_⟩) hHeld ?_ ?_
   rotate_left
   rotate_left
   ·simp only [Act.put, List.setIfInBounds_toArray, List.set_cons_zero, List.set_cons_succ]
    rfl
   rotate_left
   ·rintro w' ⟨s0, s1, s2⟩
    go_simp
   refine pure_ (i := 6) (N := some 41) (v := ?_) (a' := ?_) #[true, true, true, true, true, true, true, false, false, false, false, false, false] rfl rfl (by kernel_rfl) (fun _ _ _ h => h) (Or.inl ⟨by rfl, ?_⟩) ?_ ?_
   rotate_left
   ·intro w'
    go_simp
    with_reducible rfl
   rotate_left
   ·simp only [Act.put, List.setIfInBounds_toArray, List.set_cons_zero, List.set_cons_succ]
    rfl
   refine pure_ (i := 7) (N := some 42) (v := ?_) (a' := ?_) #[true, true, true, true, true, true, true, true, false, false, false, false, false] rfl rfl (by kernel_rfl) (fun _ _ _ h => h) (Or.inl ⟨by rfl, ?_⟩) ?_ ?_
   rotate_left
   ·intro w'
    go_simp
    with_reducible rfl
   rotate_left
   ·simp only [Act.put, List.setIfInBounds_toArray, List.set_cons_zero, List.set_cons_succ]
    rfl
   refine take_ (i := 8) (N := some 43) (v := (.slice A x.f4.length cA)) (a' := ?_) #[true, true, true, true, true, true, true, true, true, false, false, false, false] rfl rfl (by kernel_rfl) (fun _ _ _ h => h) (Or.inl ⟨by rfl, ?_⟩) hHeld ?_ ?_
   rotate_left
   rotate_left
   ·simp only [Act.put, List.setIfInBounds_toArray, List.set_cons_zero, List.set_cons_succ]
    rfl
   rotate_left
   ·rintro w' ⟨s0, s1, s2⟩
    go_simp
   refine one_ (i := 9) (N := some 44) #[true, true, true, true, true, true, true, true, true, true, false, false, false] rfl rfl (by kernel_rfl) (by decide) (fun K hK => ?_)
   refine goes_ Try.func60 (by kernel_rfl) rfl #[.slice A x.f4.length cA] (by rfl) rfl rfl (by first | rfl | (simp only [List.map_toArray, List.map_cons, List.map_nil]; rfl)) ?_
   refine (HCO.out _ hHeld.2.2).mono ?_
   rintro e w2c ⟨v4, rfl, ho, hb⟩
   obtain ⟨B4, b4, rfl⟩ := Kd.R_slice ho
   have HO4 := Aside0.mk (Kd.R_lower ho hHeld.2.2.size)
   refine ⟨_, rfl, hK.out _ _ ⟨cell_step hHeld.1 hb, cell_step hHeld.2.1 hb, below_step hHeld.2.2 hb⟩ (fun hHeld => ?_)⟩
   clear ho hb
   clear hK K
   simp only [Act.put, List.setIfInBounds_toArray, List.set_cons_zero, List.set_cons_succ]
   refine pure_ (i := 10) (N := some 45) (v := ?_) (a' := ?_) #[true, true, true, true, true, true, true, true, true, true, true, false, false] rfl rfl (by kernel_rfl) (fun _ _ _ h => h) (Or.inl ⟨by rfl, ?_⟩) ?_ ?_
   rotate_left
   ·intro w'
    go_simp
    with_reducible rfl
   rotate_left
   ·simp only [Act.put, List.setIfInBounds_toArray, List.set_cons_zero, List.set_cons_succ]
    rfl
   refine pure_ (i := 11) (N := some 46) (v := ?_) (a' := ?_) #[true, true, true, true, true, true, true, true, true, true, true, true, false] rfl rfl (by kernel_rfl) (fun _ _ _ h => h) (Or.inl ⟨by rfl, ?_⟩) ?_ ?_
   rotate_left
   ·intro w'
    go_simp
    with_reducible rfl
   rotate_left
   ·simp only [Act.put, List.setIfInBounds_toArray, List.set_cons_zero, List.set_cons_succ]
    rfl
   refine last_ (i := 12) (N := none) #[true, true, true, true, true, true, true, true, true, true, true, true, true] rfl rfl (by kernel_rfl) (by decide) (fun K hK => ?_)
   have hh : w2c.heap[g]? = some (.cells cur 51 (0, 0)) := (hHeld.2.2.block g (blk_lt HPR.out.1)).trans HPR.out.1
   have hsz : i * 5 + 4 < cur.size := by have h1 := HPR.out.2.2.2.2.2.1; have h2 := HPR.out.2.2.2.1; have h3 := HI.out; have h4 : cur.size = b2 * 5 := h1; omega
   have hyo := hHeld.2.1
   have hfo := blk_frozen hh (i * 5 + 4)
   have hb12 := hHeld.2.2
   refine skip_ (w1 := ?_) (by rfl) rfl ?_ ?_
   rotate_left
   ·go_simp
    rfl
   refine hK.out _ _ ?_
   obtain ⟨cur5, hh5, hs5, ht5, hg5⟩ := put_row hh (.slice B4 x.f4.length b4) hsz
   obtain ⟨w3c, hw3⟩ : ∃ X, X = w2c.setCell ⟨g, i * 5 + 4, none⟩ (.slice B4 x.f4.length b4) := ⟨_, rfl⟩
   rw [← hw3] at hh5
   rw [← hw3]
   have hbm := (hb12.block gm (blk_lt BM.out)).trans BM.out
   have hbr := (hb12.block gr (blk_lt BR.out)).trans BR.out
   have HRA3 := Aside0.mk (show RA w.heap.size (.slice B0 l0.length b0) (.slice B1 l1.length b1) (.slice B3 l3.length b3) l0 l1 l3 w3c by rw [hw3]; exact RA_set (RA_below HRA.out hb12) hh (by decide) _ _)
   have HO53 := Aside0.mk (show Kd.R k91 91 w3c w.heap.size (fun k_ => some k_ ≠ (Value.slice B0 l0.length b0).ownBlock ∧ some k_ ≠ (Value.slice B1 l1.length b1).ownBlock) (.slice B5 l5.length b5) l5 by rw [hw3]; exact Kd.R_set (Kd.R_below HO5.out hb12) hh (by decide) _ _)
   have HO73 := Aside0.mk (show ∃ bI, (∀ k, (Value.slice B0 l0.length b0).ownBlock = some k → k < bI) ∧ w.heap.size ≤ bI ∧ Kd.R (Kd.raw 4) 82 w3c bI (fun _ => True) (.slice B7 l7.length b7) css7 by rw [hw3]; obtain ⟨bI, q1, q2, q3⟩ := HO7.out; exact ⟨bI, q1, q2, Kd.R_set (Kd.R_below q3 hb12) hh (by decide) _ _⟩)
   have BM3 := Aside0.mk (show w3c.heap[gm]? = some (.cells #[.slice B0 l0.length b0, .slice B1 l1.length b1, .slice (some ⟨g, 0, none⟩) l2.length b2, .slice B3 l3.length b3, .int .u32 a4, .slice B5 l5.length b5, .int .i64 a6, .slice B7 l7.length b7, .int .i64 a8, .string a9] 32 (0, 0)) by rw [hw3]; exact (Below.heap_setCell _ _ _ gm (blk_ne hbm hh (by decide))).trans hbm)
   have BR3 := Aside0.mk (show w3c.heap[gr]? = some (.cells #[.slice none 0 0, .slice none 0 0, .slice none 0 0, .slice none 0 0, .int .u32 0, .slice none 0 0, .int .i64 0, .slice none 0 0, .int .i64 0, .string ⟨#[]⟩] 32 (0, 0)) by rw [hw3]; exact (Below.heap_setCell _ _ _ gr (blk_ne hbr hh (by decide))).trans hbr)
   have HB3 := Aside0.mk (show Below w.heap.size w w3c by rw [hw3]; exact below_set (below_step HB.out hb12) (Nat.le_trans (Nat.le_refl _) HPR.out.2.1))
   have hgl : g < wa.heap.size := blk_lt HPR.out.1
   have hr4 : Kd.R k69 69 w3c wa.heap.size (fun k => k ≠ g) (.slice B4 x.f4.length b4) x.f4 := by rw [hw3]; exact Kd.R_set (R_ge HO4.out hgl) hh (by decide) _ _
   have HWP3 := Aside0.mk (show WP k51 51 w w3c w.heap.size (.slice (some ⟨g, 0, none⟩) l2.length b2) (i + 1) l2 from .inr ⟨g, b2, cur5, rfl, PX_put HPP.out HX.out hh5 hs5 (fun j hj => by rw [ht5]; exact seg51_ne _ _ _ _ hj) (by rw [ht5, show seg (cur.toList.set (i * 5 + 4) (.slice B4 x.f4.length b4)) k51.sz i = _ from seg51 _ _ _ _ _ _ _ _ HSG.out.symm]; exact k51_mkM _ _ _ _ (Kd.R_lower (Kd.R_mono (Kd.R_bound hr4) (fun k hk => ⟨hk.1, hk.2.1⟩)) HB.out.size)) (fun k h5 h6 => by rw [hw3]; exact (Below.heap_setCell _ _ _ k h5).trans (hb12.block k h6))⟩)
   clear hK K hh hsz hyo hfo hb12 hh5 hs5 ht5 hg5 hw3 hbm hbr hgl hr4 hHeld hyA hy0
   refine done_ (n := 0) (by kernel_rfl) ?_
   go_wp2
   go_roundg k1
   case measure => omega
   case rel => exact ⟨i + 1, rfl, ⟨by have := HI.out; omega⟩, HWP3, HRA3, HO53, HO73, BM3, BR3, HB3⟩
end Go.Proofs.Ytfpkakedlapmkaa.Q
end
section
set_option linter.unusedVariables false
namespace Go.Proofs.Ytfpkakedlapmkaa.Q
open Go.RowKit Go.Proofs.YtfpkakedlapmkaaW.PrintWords Go.Proofs.YtfpkakedlapmkaaW.PrintLast
/-- Lists short enough for a copy to be made. -/
def shortW (x : S51) : Bool := decide (x.f4.length * 16 < 140737488355328)
def shortI (x : S82) : Bool := decide (x.f3.length * 4 < 140737488355328)
def shortM (l0 l1 : List Int) (l2 : List S51) (l3 : List Int) (l5 : List S91) (l7 : List S82) : Bool :=
 decide (l0.length * 4 < 140737488355328) && (decide (l1.length * 1 < 140737488355328) && (decide (l2.length * 64 < 140737488355328) && (decide (l3.length * 8 < 140737488355328) && (shortT l5 && (decide (l7.length * 56 < 140737488355328) && (l2.all shortW && l7.all shortI))))))
def dict_Copy.f (l0_0 : List Int) (l0_1 : List Int) (l0_2 : List (S51)) (l0_3 : List Int) (a0_4 : Int) (l0_5 : List (S91)) (a0_6 : Int) (l0_7 : List (S82)) (a0_8 : Int) (a0_9 : ByteArray) : Option (List Int × List Int × List (S51) × List Int × Int × List (S91) × Int × List (S82) × Int × ByteArray) :=
 if shortM l0_0 l0_1 l0_2 l0_3 l0_5 l0_7 = true then some (l0_0, l0_1, l0_2, l0_3, a0_4, l0_5, a0_6, l0_7, a0_8, a0_9) else none
theorem dict_Copy.calls (A0_0 : Option Addr) (c0_0 : Nat) (l0_0 : List Int) (A0_1 : Option Addr) (c0_1 : Nat) (l0_1 : List Int) (A0_2 : Option Addr) (c0_2 : Nat) (l0_2 : List (S51)) (A0_3 : Option Addr) (c0_3 : Nat) (l0_3 : List Int) (a0_4 : Int) (A0_5 : Option Addr) (c0_5 : Nat) (l0_5 : List (S91)) (a0_6 : Int) (A0_7 : Option Addr) (c0_7 : Nat) (l0_7 : List (S82)) (a0_8 : Int) (a0_9 : ByteArray) (r1 : List Int) (r2 : List Int) (r3 : List (S51)) (r4 : List Int) (r5 : Int) (r6 : List (S91)) (r7 : Int) (r8 : List (S82)) (r9 : Int) (r10 : ByteArray) (w : World) (hr0_0 : Kd.C (Kd.int .u32) w A0_0 l0_0.length l0_0) (hc0_0 : l0_0.length ≤ c0_0) (hr0_1 : Kd.C (Kd.int .u8) w A0_1 l0_1.length l0_1) (hc0_1 : l0_1.length ≤ c0_1) (hr0_2 : Kd.C k51 w A0_2 l0_2.length l0_2) (hc0_2 : l0_2.length ≤ c0_2) (hr0_3 : Kd.C (Kd.int .i64) w A0_3 l0_3.length l0_3) (hc0_3 : l0_3.length ≤ c0_3) (hr0_5 : Kd.C k91 w A0_5 l0_5.length l0_5) (hc0_5 : l0_5.length ≤ c0_5) (hr0_7 : Kd.C k82 w A0_7 l0_7.length l0_7) (hc0_7 : l0_7.length ≤ c0_7) (h : dict_Copy.f l0_0 l0_1 l0_2 l0_3 a0_4 l0_5 a0_6 l0_7 a0_8 a0_9 = some (r1, r2, r3, r4, r5, r6, r7, r8, r9, r10)) :
  Calls Try.prog 28 #[.agg #[.slice A0_0 l0_0.length c0_0, .slice A0_1 l0_1.length c0_1, .slice A0_2 l0_2.length c0_2, .slice A0_3 l0_3.length c0_3, .int .u32 a0_4, .slice A0_5 l0_5.length c0_5, .int .i64 a0_6, .slice A0_7 l0_7.length c0_7, .int .i64 a0_8, .string a0_9]] w fun e w' => ∃ v0_ v1_ v2_ v3_ v5_ v7_ : Value, e = .returned (.agg #[v0_, v1_, v2_, v3_, .int .u32 r5, v5_, .int .i64 r7, v7_, .int .i64 r9, .string r10]) ∧ Kd.R (Kd.int .u32) 28 w' w.heap.size (fun _ => True) v0_ r1 ∧ Kd.R (Kd.int .u8) 5 w' w.heap.size (fun _ => True) v1_ r2 ∧ Kd.S k51 51 w' w.heap.size (fun _ => True) v2_ r3 ∧ Kd.R (Kd.int .i64) 3 w' w.heap.size (fun _ => True) v3_ r4 ∧ Kd.R k91 91 w' w.heap.size (fun k_ => some k_ ≠ (v0_ : Value).ownBlock ∧ some k_ ≠ (v1_ : Value).ownBlock) v5_ r6 ∧ Kd.S k82 82 w' w.heap.size (fun k_ => some k_ ≠ (v0_ : Value).ownBlock) v7_ r8 ∧ Below w.heap.size w w' := by
 unfold dict_Copy.f at h
 by_cases hs : shortM l0_0 l0_1 l0_2 l0_3 l0_5 l0_7 = true
 ·rw [if_pos hs] at h
  have e := Option.some.inj h
  simp only [Prod.mk.injEq] at e
  obtain ⟨rfl, rfl, rfl, rfl, rfl, rfl, rfl, rfl, rfl, rfl⟩ := e
  simp only [shortM, shortT, Bool.and_eq_true, decide_eq_true_eq, List.all_eq_true] at hs
  obtain ⟨h0, h1, h2, h3, ⟨h5, h5b⟩, h7, hw, hi⟩ := hs
  exact dcopy_calls A0_0 c0_0 l0_0 A0_1 c0_1 l0_1 A0_2 c0_2 l0_2 A0_3 c0_3 l0_3 a0_4 A0_5 c0_5 l0_5 a0_6 A0_7 c0_7 l0_7 a0_8 a0_9 w hr0_0 hr0_1 hr0_2 hr0_3 hr0_5 hc0_5 hr0_7 h0 h1 h2 h3 h5 (fun x hx => shortN_G (h5b x hx)) h7 (fun x hx => by have := hw x hx; simpa [shortW] using this) (fun x hx => by have := hi x hx; simpa [shortI] using this)
 ·rw [if_neg hs] at h
  cases h
def api_Op.f (l0 : List (S69)) : Option (List (S69)) := if l0.length * 16 < 140737488355328 then some l0 else none
end Go.Proofs.Ytfpkakedlapmkaa.Q
end
section
set_option linter.unusedVariables false
namespace Go.Proofs.Ytfpkakedlapmkaa.Q
open Go.RowKit Go.Proofs.YtfpkakedlapmkaaW.PrintWords Go.Proofs.YtfpkakedlapmkaaW.PrintLast
def OpG (a : S69) : Prop := (Lit.int .i64 a.f0).wf = true ∧ (Lit.int .u32 a.f1).wf = true
def OpsG (l : List S69) : Prop := l.length * 16 ≤ 140737488351232 ∧ ∀ b ∈ l, OpG b
def WordG (a : S51) : Prop := a.f0.size ≤ 140737488351232 ∧ (Lit.int .i64 a.f1).wf = true ∧ (Lit.int .i64 a.f2).wf = true ∧ (Lit.int .u32 a.f3).wf = true ∧ OpsG a.f4
def PropG (p : S106) : Prop := p.f0.size ≤ 140737488351232 ∧ (p.f1.length * 1 ≤ 140737488351232 ∧ ∀ b ∈ p.f1, (Lit.int .u8 b).wf = true)
def NodeG (a : S91) : Prop := a.f0.size ≤ 140737488351232 ∧ (a.f1.length * 4 ≤ 140737488351232 ∧ ∀ b ∈ a.f1, (Lit.int .u32 b).wf = true) ∧ (Lit.int .i64 a.f2).wf = true ∧ (a.f3.length * 40 ≤ 140737488351232 ∧ ∀ b ∈ a.f3, PropG b) ∧ (a.f4.length * 4 ≤ 140737488351232 ∧ ∀ b ∈ a.f4, (Lit.int .u32 b).wf = true)
def InstG (a : S82) : Prop := (Lit.int .i64 a.f0).wf = true ∧ (Lit.int .i64 a.f1).wf = true ∧ a.f2.size ≤ 140737488351232 ∧ (a.f3.length * 4 ≤ 140737488351232 ∧ ∀ b ∈ a.f3, (Lit.int .u32 b).wf = true)
def MachG (z : S32) : Prop := (z.f0.length * 4 ≤ 140737488351232 ∧ ∀ b ∈ z.f0, (Lit.int .u32 b).wf = true) ∧ (z.f1.length * 1 ≤ 140737488351232 ∧ ∀ b ∈ z.f1, (Lit.int .u8 b).wf = true) ∧ (z.f2.length * 64 ≤ 140737488351232 ∧ ∀ b ∈ z.f2, WordG b) ∧ (z.f3.length * 8 ≤ 140737488351232 ∧ ∀ b ∈ z.f3, (Lit.int .i64 b).wf = true) ∧ (Lit.int .u32 z.f4).wf = true ∧ (z.f5.length * 96 ≤ 140737488351232 ∧ ∀ b ∈ z.f5, NodeG b) ∧ (Lit.int .i64 z.f6).wf = true ∧ (z.f7.length * 56 ≤ 140737488351232 ∧ ∀ b ∈ z.f7, InstG b) ∧ (Lit.int .i64 z.f8).wf = true ∧ z.f9.size ≤ 140737488351232
end Go.Proofs.Ytfpkakedlapmkaa.Q
end
