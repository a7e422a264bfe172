/- Contracts of Go functions and plain facts, of several texts, one behind the other; no condition. -/
import Derived.Test.YtnalcjgefbelnaaDoorMTreeKeeps2
section
set_option linter.unusedSimpArgs false
set_option linter.unusedVariables false
namespace Go.Proofs.YtnalcjgefbelnaaDoor.Q
open Go.RowKit Go.Proofs.YtnalcjgefbelnaaDoorW.PrintWords Go.Proofs.YtnalcjgefbelnaaDoorW.PrintLast Go.Proofs.YtnalcjgefbelnaaDoorW.PrintMore
attribute [local go_sem] max2_int min2_int max_two min_two max_three min_three max_four min_four
theorem int_drop (l : List Int) (i : Int) (h0 : 0 ≤ i) (h1 : i < l.length) : l.drop i.toNat = rd l i :: l.drop (i + 1).toNat := by
  rw [List.drop_eq_getElem_cons (show i.toNat < l.length by omega), show (i + 1).toNat = i.toNat + 1 by omega]
  simp [rd, List.getD_eq_getElem?_getD, List.getElem?_eq_getElem (show i.toNat < l.length by omega)]
theorem equal_go (a b : List Int) (hl : a.length = b.length) (hm : a.length ≤ 9223372036854775807) : ∀ (d k : Nat) (i : Int), 0 ≤ i → i + d = a.length → d < k → slices_Equal_uint32_uint32.l0 k a b a.length i = some (decide (a.drop i.toNat = b.drop i.toNat))
  | 0, k, i, h0, h1, hk => by
    obtain ⟨k, rfl⟩ : ∃ m, k = m + 1 := ⟨k - 1, by omega⟩
    rw [slices_Equal_uint32_uint32.l0, if_neg (by omega), List.drop_eq_nil_of_le (by omega), List.drop_eq_nil_of_le (by omega), decide_eq_true rfl]
  | d + 1, k, i, h0, h1, hk => by
    obtain ⟨k, rfl⟩ : ∃ m, k = m + 1 := ⟨k - 1, by omega⟩
    have hw : wrap64 (i + 1) = i + 1 := by unfold wrap64; omega
    rw [slices_Equal_uint32_uint32.l0, if_pos (by omega), if_pos h0, if_pos (by omega), if_pos (by omega), hw, equal_go a b hl hm d k (i + 1) (by omega) (by omega) (by omega), int_drop a i h0 (by omega), int_drop b i h0 (by omega)]
    by_cases he : rd a i = rd b i
    · rw [if_pos he]
      congr 1
      refine decide_eq_decide.2 ⟨fun h => by rw [he, h], fun h => (List.cons.inj h).2⟩
    · rw [if_neg he, decide_eq_false (fun h => he (List.cons.inj h).1)]
theorem equal_eq (a b : List Int) (hm : a.length ≤ 9223372036854775807) (k : Nat) (hk : a.length < k) : slices_Equal_uint32_uint32.f k a b = some (decide (a = b)) := by
  unfold slices_Equal_uint32_uint32.f
  by_cases hl : a.length = b.length
  · rw [if_pos (by omega), equal_go a b hl hm a.length k 0 (Int.le_refl _) (by omega) hk]
    rfl
  · rw [if_neg (by omega), decide_eq_false (fun h => hl (by rw [h]))]
/-- Has a device that parent, name and address? -/
def isN (p : Int) (s : ByteArray) (u : List Int) (x : S44) : Bool := (x.f2 == p) && ((x.f0.toList == s.toList) && decide (x.f1 = u))
theorem is_calls (p : Int) (s : ByteArray) (AU : Option Addr) (lu cu : Nat) (w : World) :
    Calls Tryd.prog 43 #[.int .i64 p, .string s, .slice AU lu cu] w fun e w' => ∃ g1 g2 g3, e = .returned (.func (.func 69) #[] #[.pointer (some ⟨g1, 0, none⟩), .pointer (some ⟨g2, 0, none⟩), .pointer (some ⟨g3, 0, none⟩)]) ∧ (w.heap.size ≤ g1 ∧ w.heap.size ≤ g2 ∧ w.heap.size ≤ g3) ∧ w'.heap[g1]? = some (.cells #[.int .i64 p] 3 (0, 0)) ∧ w'.heap[g2]? = some (.cells #[.string s] 9 (0, 0)) ∧ w'.heap[g3]? = some (.cells #[.slice AU lu cu] 31 (0, 0)) ∧ Below w.heap.size w w' := by
  have HB0 := Aside0.mk (Below.refl w.heap.size w)
  go_enter Tryd.func43, Tryd.ntmps43
  go_wp2_with (first
    | ((with_reducible refine gate_dst (N := 3) rfl ?_); refine box_event ?hg (N := 3) ?hd (cs := #[.int .i64 p]) (t := 3) ?hr ?_; (case hd => rfl); (case hg => rfl); (case hr => first | (go_simp; done) | (go_simp; rfl)); intro g1 hg1 w1 hbox hb; have K1 := Aside0.mk hbox; have B1 := Aside0.mk hb; have G1 := Aside0.mk (show w.heap.size ≤ g1 from hg1 ▸ Nat.le_refl _); clear hbox hb hg1)
    | ((with_reducible refine gate_dst (N := 4) rfl ?_); refine box_event ?hg (N := 4) ?hd (cs := #[.string s]) (t := 9) ?hr ?_; (case hd => rfl); (case hg => rfl); (case hr => first | (go_simp; done) | (go_simp; rfl)); intro g2 hg2 w2 hbox hb; have K2 := Aside0.mk hbox; have L1 := Aside0.mk ((hb.block g1 (blk_lt K1.out)).trans K1.out); have B2 := Aside0.mk (below_step B1.out hb); have G2 := Aside0.mk (show w.heap.size ≤ g2 from hg2 ▸ B1.out.size); clear hbox hb hg2)
    | ((with_reducible refine gate_dst (N := 5) rfl ?_); refine box_event ?hg (N := 5) ?hd (cs := #[.slice AU lu cu]) (t := 31) ?hr ?_; (case hd => rfl); (case hg => rfl); (case hr => first | (go_simp; done) | (go_simp; rfl)); intro g3 hg3 w3 hbox hb; have K3 := Aside0.mk hbox; have M1 := Aside0.mk ((hb.block g1 (blk_lt L1.out)).trans L1.out); have M2 := Aside0.mk ((hb.block g2 (blk_lt K2.out)).trans K2.out); have B3 := Aside0.mk (below_step B2.out hb); have G3 := Aside0.mk (show w.heap.size ≤ g3 from hg3 ▸ B2.out.size); clear hbox hb hg3))
  go_ret
  exact ⟨g1, g2, g3, rfl, ⟨G1.out, G2.out, G3.out⟩, M1.out, M2.out, K3.out, B3.out⟩
set_option maxHeartbeats 2000000 in
theorem isC_calls (x : S44) (A1 : Option Addr) (c1 : Nat) (A3 : Option Addr) (c3 : Nat) (A4 : Option Addr) (c4 : Nat) (p : Int) (s : ByteArray) (u : List Int) (AU : Option Addr) (cu : Nat) (g1 g2 g3 : Nat) (w : World) (h1 : w.heap[g1]? = some (.cells #[.int .i64 p] 3 (0, 0))) (h2 : w.heap[g2]? = some (.cells #[.string s] 9 (0, 0))) (h3 : w.heap[g3]? = some (.cells #[.slice AU u.length cu] 31 (0, 0)))
    (hx : Kd.C (Kd.int .u32) w A1 x.f1.length x.f1) (hxc : x.f1.length ≤ c1) (hu : Kd.C (Kd.int .u32) w AU u.length u) (huc : u.length ≤ cu) :
    Calls Tryd.prog 69 #[.agg #[.string x.f0, .slice A1 x.f1.length c1, .int .i64 x.f2, .slice A3 x.f3.length c3, .slice A4 x.f4.length c4], .pointer (some ⟨g1, 0, none⟩), .pointer (some ⟨g2, 0, none⟩), .pointer (some ⟨g3, 0, none⟩)] w fun e w' => e = .returned (.bool (isN p s u x)) ∧ Below w.heap.size w w' := by
  have hu91 := Tryd.underlying44
  have hm := Kd.C_max hx
  have hEq := fun (W : World) (hb : Below w.heap.size w W) => slices_Equal_uint32_uint32.calls 9223372036854775808 A1 c1 x.f1 AU cu u (decide (x.f1 = u)) W (Kd.C_below hx hb) hxc (Kd.C_below hu hb) huc (equal_eq x.f1 u (by omega) _ (by omega))
  have HEQ := Aside0.mk hEq
  have HL := Aside0.mk (⟨blk_lt h1, blk_lt h2, blk_lt h3⟩ : g1 < w.heap.size ∧ g2 < w.heap.size ∧ g3 < w.heap.size)
  have H1 := Aside0.mk h1
  have H2 := Aside0.mk h2
  have H3 := Aside0.mk h3
  have HI := Aside0.mk (show isN p s u x = ((x.f2 == p) && ((x.f0.toList == s.toList) && decide (x.f1 = u))) from rfl)
  clear h1 h2 h3 hx hxc hu huc hm hEq
  cases b1 : (x.f2 == p) <;> cases b2 : (x.f0.toList == s.toList)
  all_goals (
    rw [b1, b2] at HI
    go_enter Tryd.func69, Tryd.ntmps69
    go_wp2_with (first
      | ((with_reducible refine gate_dst (N := 4) rfl ?_); refine box_event ?hg (N := 4) ?hd (cs := #[.string x.f0, .slice A1 x.f1.length c1, .int .i64 x.f2, .slice A3 x.f3.length c3, .slice A4 x.f4.length c4]) (t := 44) ?hr ?_; (case hd => rfl); (case hg => rfl); (case hr => first | (go_simp; done) | (go_simp; rfl)); intro ga hga w1 hbox hb; have BK := Aside0.mk hbox; have hz0 := (blk_cell BK.out 0).trans rfl; have hz1 := (blk_cell BK.out 1).trans rfl; have hz2 := (blk_cell BK.out 2).trans rfl; have hf0 := blk_frozen BK.out 0; have hf1 := blk_frozen BK.out 1; have hf2 := blk_frozen BK.out 2; have hy1 : w1.cell? ⟨g1, 0, none⟩ = some (.int .i64 p) := (hb.cell (p := ⟨g1, 0, none⟩) HL.out.1).trans ((blk_cell H1.out 0).trans rfl); have hy2 : w1.cell? ⟨g2, 0, none⟩ = some (.string s) := (hb.cell (p := ⟨g2, 0, none⟩) HL.out.2.1).trans ((blk_cell H2.out 0).trans rfl); have hy3 : w1.cell? ⟨g3, 0, none⟩ = some (.slice AU u.length cu) := (hb.cell (p := ⟨g3, 0, none⟩) HL.out.2.2).trans ((blk_cell H3.out 0).trans rfl); have HB := Aside0.mk hb; clear hbox hb hga)
      | (go_at_call 57; (with_reducible refine (HEQ.out _ HB.out).mono ?_); rintro e w2 ⟨rfl, hd⟩; obtain ⟨n, rfl⟩ := hd.out; clear hd))
    go_ret
    exact ⟨by rw [HI.out]; rfl, by first | exact HB.out | exact pw_below_drewN HB.out _⟩)
set_option maxHeartbeats 2000000 in
set_option maxRecDepth 100000 in
theorem indexNode_calls (p : Int) (s : ByteArray) (u : List Int) (AU : Option Addr) (cu : Nat) (g1 g2 g3 : Nat) (A : Option Addr) (c : Nat) (l : List S44) (w : World) (hC : Kd.C k44 w A l.length l) (h1 : w.heap[g1]? = some (.cells #[.int .i64 p] 3 (0, 0))) (h2 : w.heap[g2]? = some (.cells #[.string s] 9 (0, 0))) (h3 : w.heap[g3]? = some (.cells #[.slice AU u.length cu] 31 (0, 0))) (hu : Kd.C (Kd.int .u32) w AU u.length u) (huc : u.length ≤ cu) :
    Calls Tryd.prog 55 #[.slice A l.length c, .func (.func 69) #[] #[.pointer (some ⟨g1, 0, none⟩), .pointer (some ⟨g2, 0, none⟩), .pointer (some ⟨g3, 0, none⟩)]] w fun e w' => e = .returned (.int .i64 (idxP (isN p s u) l)) ∧ Below w.heap.size w w' := by
  have hu91 := Tryd.underlying44
  have t1 := blk_lt h1
  have t2 := blk_lt h2
  have t3 := blk_lt h3
  have HC := Aside0.mk hC
  have HF := Aside0.mk (fun (x : S44) (A1 : Option Addr) (c1 : Nat) (A3 : Option Addr) (c3 : Nat) (A4 : Option Addr) (c4 : Nat) (W : World) (hb : Below w.heap.size w W) (hx : Kd.C (Kd.int .u32) W A1 x.f1.length x.f1) (hxc : x.f1.length ≤ c1) => isC_calls x A1 c1 A3 c3 A4 c4 p s u AU cu g1 g2 g3 W (by rw [hb.block g1 t1]; exact h1) (by rw [hb.block g2 t2]; exact h2) (by rw [hb.block g3 t3]; exact h3) hx hxc (Kd.C_below hu hb) huc)
  clear hC h1 h2 h3 hu huc
  go_enter Tryd.func55, Tryd.ntmps55
  go_wp2
  go_loopg [8] l.length (fun kq v8 w' => ∃ i : Int, v8 = .int .i64 i ∧ Aside0 (0 ≤ i ∧ i + kq = l.length) ∧ Aside0 (∀ j : Nat, j < i.toNat → (isN p s u) (l.getD j z44) = false) ∧ Aside0 (Below w.heap.size w w'))
  case atStart => exact ⟨0, rfl, ⟨by omega, by omega⟩, ⟨fun j hj => absurd hj (by simp)⟩, ⟨Below.refl _ _⟩⟩
  case round =>
    obtain ⟨i, rfl, HI, HZ, HB⟩ := hrel
    cases gk with
    | zero =>
      have hlt : decide (i < (l.length : Int)) = false := decide_eq_false (by have := HI.out; omega)
      go_wp2
      go_ret
      have hz := HZ.out
      have hi := HI.out
      refine ⟨?_, HB.out⟩
      rw [idxP_drop (isN p s u) z44 l i.toNat hz, List.drop_eq_nil_of_le (by omega)]
      rfl
    | succ k1 =>
      have hi := HI.out
      have hm := Kd.C_max HC.out
      have hlt : decide (i < (l.length : Int)) = true := decide_eq_true (by omega)
      have p1 : (0 ≤ i) = True := eq_true (by omega)
      have p2 : (i < (l.length : Int)) = True := eq_true (by omega)
      obtain ⟨ad, A1, c1, A3, c3, A4, c4, eA, hx0, hx1, hx2, hx3, hx4, hl1, hg1, hl3, hg3, hl4, hg4⟩ := at_T44 (Kd.C_below HC.out HB.out) i (by omega) (by omega)
      cases eA
      have HGD := Aside0.mk (show rd_T44 l i = l.getD i.toNat z44 from rfl)
      have HIN := Aside0.mk (show (isN p s u) (rd_T44 l i) = true → idxP (isN p s u) l = i from fun h => by
        rw [idxP_here (isN p s u) z44 l i.toNat HZ.out (by omega) h]
        omega)
      have hwr : IntKind.i64.wrap (i + 1) = i + 1 := (i64_w _).trans (by unfold wrap64; omega)
      have hwr2 : wrap64 (i + 1) = i + 1 := by unfold wrap64; omega
      have HG1 := Aside0.mk hg1; have HL1 := Aside0.mk hl1; clear hl1 hg1 hl3 hg3 hl4 hg4
      clear hi hm
      obtain ⟨b, hb0⟩ : ∃ b, b = (isN p s u) (rd_T44 l i) := ⟨_, rfl⟩
      have HBP := Aside0.mk hb0
      cases b with
      | true =>
        clear hb0
        go_wp2_with (first
          | (go_at_call 69; (with_reducible refine (HF.out (rd_T44 l i) A1 c1 A3 c3 A4 c4 _ HB.out HG1.out HL1.out).mono ?_); rintro e w2 ⟨rfl, hb⟩; rw [← HBP.out]; have HB2 := Aside0.mk (below_step HB.out hb); clear hb))
        go_ret
        exact ⟨by rw [HIN.out HBP.out.symm]; rfl, HB2.out⟩
      | false =>
        clear hb0
        go_wp2_with (first
          | (go_at_call 69; (with_reducible refine (HF.out (rd_T44 l i) A1 c1 A3 c3 A4 c4 _ HB.out HG1.out HL1.out).mono ?_); rintro e w2 ⟨rfl, hb⟩; rw [← HBP.out]; have HB2 := Aside0.mk (below_step HB.out hb); clear hb))
        go_roundg k1
        case measure => omega
        case rel =>
          have hi := HI.out
          refine ⟨i + 1, rfl, ⟨by omega, by omega⟩, ⟨fun j hj => ?_⟩, HB2⟩
          by_cases hji : j = i.toNat
          · subst hji
            rw [← HGD.out]
            exact HBP.out.symm
          · exact HZ.out j (by omega)
theorem containsNode_calls (p : Int) (s : ByteArray) (u : List Int) (AU : Option Addr) (cu : Nat) (g1 g2 g3 : Nat) (A : Option Addr) (c : Nat) (l : List S44) (w : World) (hC : Kd.C k44 w A l.length l) (h1 : w.heap[g1]? = some (.cells #[.int .i64 p] 3 (0, 0))) (h2 : w.heap[g2]? = some (.cells #[.string s] 9 (0, 0))) (h3 : w.heap[g3]? = some (.cells #[.slice AU u.length cu] 31 (0, 0))) (hu : Kd.C (Kd.int .u32) w AU u.length u) (huc : u.length ≤ cu) :
    Calls Tryd.prog 42 #[.slice A l.length c, .func (.func 69) #[] #[.pointer (some ⟨g1, 0, none⟩), .pointer (some ⟨g2, 0, none⟩), .pointer (some ⟨g3, 0, none⟩)]] w fun e w' => e = .returned (.bool (l.any (isN p s u))) ∧ Below w.heap.size w w' := by
  have HIX := Aside0.mk (indexNode_calls p s u AU cu g1 g2 g3 A c l w hC h1 h2 h3 hu huc)
  have HAN := Aside0.mk (idxP_any (isN p s u) l)
  clear hC h1 h2 h3 hu huc
  go_enter Tryd.func42, Tryd.ntmps42
  go_wp2_with (go_at_call 55; refine HIX.out.mono ?_; rintro e w1 ⟨rfl, hb⟩; have HB := Aside0.mk hb; clear hb)
  go_ret
  exact ⟨by rw [← HAN.out]; rfl, HB.out⟩
end Go.Proofs.YtnalcjgefbelnaaDoor.Q
end
section
set_option linter.unusedSimpArgs false
set_option linter.unusedVariables false
namespace Go.Proofs.YtnalcjgefbelnaaDoor.Q
open Go.RowKit Go.Proofs.YtnalcjgefbelnaaDoorW.PrintWords Go.Proofs.YtnalcjgefbelnaaDoorW.PrintLast Go.Proofs.YtnalcjgefbelnaaDoorW.PrintMore
attribute [local go_sem] max2_int min2_int max_two min_two max_three min_three max_four min_four
def rootOk (x : S44) : Bool := (x.f0.toList == ([] : List UInt8)) && (((x.f1.length : Int) == 0) && (x.f2 == -1))
def kidOk (T : List S44) (i : Int) (x : S44) : Bool := namedF x.f0 && (!decide (4 < (x.f1.length : Int)) && (!decide (x.f2 < 0) && (!decide (i ≤ x.f2) && !T.any (isN x.f2 x.f0 x.f1))))
def nodeOk (t : List S44) (i : Nat) : Bool := (!decide (16 < ((t.getD i z44).f4.length : Int)) && propsF (t.getD i z44).f3) && (if (i : Int) == 0 then rootOk (t.getD i z44) else kidOk (t.take i) i (t.getD i z44))
def treeF (t : List S44) : Bool := !((t.length : Int) == 0) && (!decide (32 < (t.length : Int)) && (List.range t.length).all (nodeOk t))
theorem info44s : (Tryd.prog.info? 44).map (·.size) = some 5 := by kernel_rfl
theorem box_new5 (wr : World) (a b c d e : Value) (t : Nat) : (wr.alloc (.cells #[a, b, c, d, e] t)).heap[wr.heap.size]? = some (.cells #[a, b, c, d, e] t (0, 0)) := heap_alloc_new wr _
theorem held3_start {g : Nat} {a b c d e : Value} {t : Nat} {w W : World} (hh : W.heap[g]? = some (.cells #[a, b, c, d, e] t (0, 0))) (hb : Below w.heap.size w W) : ((W.drew.cell? ⟨g, 0, none⟩ = some a ∧ W.drew.cell? ⟨g, 1, none⟩ = some b ∧ W.drew.cell? ⟨g, 2, none⟩ = some c) ∧ Below w.heap.size w W.drew) :=
  ⟨⟨blk_cell hh 0, blk_cell hh 1, blk_cell hh 2⟩, below_drew1 hb⟩
theorem held3_step {g : Nat} {a b c : Value} {w W w2 : World} (h : (W.cell? ⟨g, 0, none⟩ = some a ∧ W.cell? ⟨g, 1, none⟩ = some b ∧ W.cell? ⟨g, 2, none⟩ = some c) ∧ Below w.heap.size w W) (hb : Below W.heap.size W w2) : (w2.cell? ⟨g, 0, none⟩ = some a ∧ w2.cell? ⟨g, 1, none⟩ = some b ∧ w2.cell? ⟨g, 2, none⟩ = some c) ∧ Below w.heap.size w w2 :=
  ⟨⟨(hb.cell (World.block_lt_of_cell? _ _ h.1.1)).trans h.1.1, (hb.cell (World.block_lt_of_cell? _ _ h.1.2.1)).trans h.1.2.1, (hb.cell (World.block_lt_of_cell? _ _ h.1.2.2)).trans h.1.2.2⟩, below_step h.2 hb⟩
set_option maxHeartbeats 16000000 in
set_option maxRecDepth 100000 in
theorem treeFormed_calls (A : Option Addr) (c : Nat) (l : List S44) (w : World) (hC : Kd.C k44 w A l.length l) (hc : l.length ≤ c) :
    Calls Tryd.prog 12 #[.slice A l.length c] w fun e w' => e = .returned (.bool (treeF l)) ∧ Below w.heap.size w w' := by
  have hu91 := Tryd.underlying44
  have hm := Kd.C_max hC
  cases h0 : ((l.length : Int) == 0)
  · cases h32 : decide (32 < (l.length : Int))
    · have HPF := Aside0.mk (show treeF l = (List.range l.length).all (nodeOk l) by unfold treeF; rw [h0, h32]; rfl)
      have HC := Aside0.mk hC
      have HCC := Aside0.mk hc
      have H32 := Aside0.mk (of_decide_eq_false h32)
      have HNM := Aside0.mk (fun (s : ByteArray) (W : World) => prop_Named.calls 400 s (namedF s) W (named_eq 400 (by decide) s))
      have HPR := Aside0.mk (fun (A : Option Addr) (c : Nat) (l : List S53) (W : World) (hC : Kd.C k53 W A l.length l) (hc : l.length ≤ c) => propsFormed_calls A c l W hC hc)
      have HB0 := Aside0.mk (Below.refl w.heap.size w)
      have mixed : Tryd.prog.follows Departure.mixedOrders = true := by kernel_rfl
      clear hC hc hm
      go_enter Tryd.func12, Tryd.ntmps12
      go_wp2
      go_loopg [15] l.length (fun kq v8 w' => ∃ i : Int, v8 = .int .i64 i ∧ Aside0 (0 ≤ i ∧ i + kq = l.length) ∧ Aside0 (∀ j : Nat, j < i.toNat → nodeOk l j = true) ∧ Aside0 (Below w.heap.size w w'))
      case atStart => exact ⟨0, rfl, ⟨by omega, by omega⟩, ⟨fun j hj => absurd hj (by simp)⟩, ⟨Below.refl _ _⟩⟩
      case round =>
        obtain ⟨i, rfl, HI, HZ, HB⟩ := hrel
        cases gk with
        | zero =>
          have hlt : decide (i < (l.length : Int)) = false := decide_eq_false (by have := HI.out; omega)
          go_wp2
          go_ret
          have hz := HZ.out
          have hi := HI.out
          exact ⟨by rw [HPF.out, range_all _ _ (fun j hj => hz j (by omega))]; rfl, HB.out⟩
        | succ k1 =>
          have hi := HI.out
          have hlt : decide (i < (l.length : Int)) = true := decide_eq_true (by omega)
          have p1 : (0 ≤ i) = True := eq_true (by omega)
          have p2 : (i < (l.length : Int)) = True := eq_true (by omega)
          obtain ⟨ad, A1, c1, A3, c3, A4, c4, eA, hx0, hx1, hx2, hx3, hx4, hl1, hg1, hl3, hg3, hl4, hg4⟩ := at_T44 (Kd.C_below HC.out HB.out) i (by omega) (by omega)
          cases eA
          have hwr : IntKind.i64.wrap (i + 1) = i + 1 := (i64_w _).trans (by unfold wrap64; have := H32.out; omega)
          have hwr2 : wrap64 (i + 1) = i + 1 := by unfold wrap64; have := H32.out; omega
          have hcut := run_cut_hi (P := Tryd.prog) Tryd.underlying22 info44s (some ad) l.length c i (by omega) (by have := HCC.out; omega)
          have HTK := Aside0.mk (fun (W : World) (hb : Below w.heap.size w W) => (Kd.C_take (Kd.C_below HC.out hb) (by omega) : Kd.C k44 W (some ad) (l.take i.toNat).length (l.take i.toNat)))
          have HTL := Aside0.mk (show (l.take i.toNat).length = i.toNat by rw [List.length_take]; omega)
          have HPO := Aside0.mk (show nodeOk l i.toNat = ((!decide (16 < ((rd_T44 l i).f4.length : Int)) && propsF (rd_T44 l i).f3) && (if i == 0 then rootOk (rd_T44 l i) else kidOk (l.take i.toNat) i (rd_T44 l i))) by
            have e : ((i.toNat : Nat) : Int) = i := by omega
            unfold nodeOk
            rw [e]
            rfl)
          have HG1 := Aside0.mk hg1
          have HL1 := Aside0.mk hl1
          have HPX := Aside0.mk (fun (W : World) (hb : Below wr.heap.size wr W) => HPR.out A3 c3 (rd_T44 l i).f3 W (Kd.C_below hg3 hb) hl3)
          generalize rd_T44 l i = x at *
          rw [← HTL.out] at hcut
          have HHI := Aside0.mk hi
          have HCN := Aside0.mk (fun (g1 g2 g3 : Nat) (W : World) (hb : Below w.heap.size w W) (hbr : Below wr.heap.size wr W) (h1 : W.heap[g1]? = some (.cells #[.int .i64 x.f2] 3 (0, 0))) (h2 : W.heap[g2]? = some (.cells #[.string x.f0] 9 (0, 0))) (h3 : W.heap[g3]? = some (.cells #[.slice A1 x.f1.length c1] 31 (0, 0))) => containsNode_calls x.f2 x.f0 x.f1 A1 c1 g1 g2 g3 (some ad) c (l.take i.toNat) W (HTK.out W hb) h1 h2 h3 (Kd.C_below HG1.out hbr) HL1.out)
          have HNA := Aside0.mk (fun W : World => HNM.out x.f0 W)
          have HBXN := Aside0.mk (box_new5 wr (.string x.f0) (.slice A1 x.f1.length c1) (.int .i64 x.f2) (.slice A3 x.f3.length c3) (.slice A4 x.f4.length c4) 44)
          have HBW := Aside0.mk (below_alloc (Below.refl wr.heap.size wr) (.cells #[.string x.f0, .slice A1 x.f1.length c1, .int .i64 x.f2, .slice A3 x.f3.length c3, .slice A4 x.f4.length c4] 44 (0, 0)))
          generalize l.take i.toNat = LT at *
          clear hi hl1 hg1 hl3 hg3 hl4 hg4
          cases e0 : decide (16 < (x.f4.length : Int))
          · cases b1 : propsF x.f3
            · rw [e0, b1] at HPO
              rw [b1] at HPX
              go_wp2_with (first
                | (go_at_call 40; (with_reducible refine (HPX.out _ HBW.out).mono ?_); rintro e w2 ⟨rfl, hb⟩; have HBX := Aside0.mk ((hb.block wr.heap.size (blk_lt HBXN.out)).trans HBXN.out); have HB2 := Aside0.mk (below_step HBW.out hb); have hz0 := (blk_cell HBX.out 0).trans rfl; have hz1 := (blk_cell HBX.out 1).trans rfl; have hz2 := (blk_cell HBX.out 2).trans rfl; clear hb))
              go_ret
              have hi := HHI.out
              exact ⟨by rw [HPF.out, range_not _ _ i.toNat (by omega) (by rw [HPO.out]; rfl)]; rfl, below_step HB.out HB2.out⟩
            · rw [b1] at HPX
              cases e1 : (i == 0)
              · rw [e0, b1, e1] at HPO
                have HKO := Aside0.mk (show kidOk LT i x = (namedF x.f0 && (!decide (4 < (x.f1.length : Int)) && (!decide (x.f2 < 0) && (!decide (i ≤ x.f2) && !LT.any (isN x.f2 x.f0 x.f1))))) from rfl)
                clear b1
                cases b2 : namedF x.f0
                · rw [b2] at HKO HNA
                  clear b2
                  go_wp2_with (first
                    | (go_at_call 40; (with_reducible refine (HPX.out _ HBW.out).mono ?_); rintro e w2 ⟨rfl, hb⟩; have HBX := Aside0.mk ((hb.block wr.heap.size (blk_lt HBXN.out)).trans HBXN.out); have HB2 := Aside0.mk (below_step HBW.out hb); have hz0 := (blk_cell HBX.out 0).trans rfl; have hz1 := (blk_cell HBX.out 1).trans rfl; have hz2 := (blk_cell HBX.out 2).trans rfl; clear hb)
                    | (go_at_call 41; (with_reducible refine (HNA.out _).mono ?_); rintro e w3 ⟨rfl, hb⟩; clear hz0 hz1 hz2; have HBX3 := Aside0.mk ((hb.block wr.heap.size (blk_lt HBX.out)).trans HBX.out); have HB3 := Aside0.mk (below_step HB2.out hb); have hz0 := (blk_cell HBX3.out 0).trans rfl; have hz1 := (blk_cell HBX3.out 1).trans rfl; have hz2 := (blk_cell HBX3.out 2).trans rfl; clear hb))
                  go_ret
                  have hi := HHI.out
                  exact ⟨by rw [HPF.out, range_not _ _ i.toNat (by omega) (by rw [HPO.out, HKO.out]; rfl)]; rfl, below_step HB.out HB3.out⟩
                · rw [b2] at HKO HNA
                  clear b2
                  cases e4 : decide (4 < (x.f1.length : Int))
                  · rw [e4] at HKO
                    cases e5 : decide (x.f2 < 0)
                    · rw [e5] at HKO
                      cases e6 : decide (i ≤ x.f2)
                      · rw [e6] at HKO
                        cases b3 : LT.any (isN x.f2 x.f0 x.f1)
                        · rw [b3] at HKO HCN
                          clear b3
                          go_wp2_with (first
                            | (go_at_call 40; (with_reducible refine (HPX.out _ HBW.out).mono ?_); rintro e w2 ⟨rfl, hb⟩; have HBX := Aside0.mk ((hb.block wr.heap.size (blk_lt HBXN.out)).trans HBXN.out); have HB2 := Aside0.mk (below_step HBW.out hb); have hz0 := (blk_cell HBX.out 0).trans rfl; have hz1 := (blk_cell HBX.out 1).trans rfl; have hz2 := (blk_cell HBX.out 2).trans rfl; clear hb)
                            | (go_at_call 41; (with_reducible refine (HNA.out _).mono ?_); rintro e w3 ⟨rfl, hb⟩; clear hz0 hz1 hz2; have HBX3 := Aside0.mk ((hb.block wr.heap.size (blk_lt HBX.out)).trans HBX.out); have HB3 := Aside0.mk (below_step HB2.out hb); have hz0 := (blk_cell HBX3.out 0).trans rfl; have hz1 := (blk_cell HBX3.out 1).trans rfl; have hz2 := (blk_cell HBX3.out 2).trans rfl; clear hb))
                          refine start_ (n := 12) (S := fun w' => (w'.cell? ⟨wr.heap.size, 0, none⟩ = some (.string x.f0) ∧ w'.cell? ⟨wr.heap.size, 1, none⟩ = some (.slice A1 x.f1.length c1) ∧ w'.cell? ⟨wr.heap.size, 2, none⟩ = some (.int .i64 x.f2)) ∧ Below wr.heap.size wr w') (ds := []) #[false, false, false, false, false, false, false, false, false, false, false, false] (by kernel_rfl) rfl rfl (held3_start HBX3.out HB3.out) (fun hHeld => ?_)
                          refine pure_ (i := 0) (N := some 71) (v := ?_) (a' := ?_) #[true, false, false, false, false, false, false, false, false, false, false, false] rfl rfl (by kernel_rfl) (fun _ _ _ h => h) (Or.inl ⟨by rfl, ?_⟩) ?_ ?_
                          rotate_left
                          · intro w'
                            go_simp
                            with_reducible rfl
                          rotate_left
                          · simp only [Act.put, List.setIfInBounds_toArray, List.set_cons_zero, List.set_cons_succ]
                            rfl
                          refine pure_ (i := 1) (N := some 72) (v := ?_) (a' := ?_) #[true, true, false, false, false, false, false, false, false, false, false, false] rfl rfl (by kernel_rfl) (fun _ _ _ h => h) (Or.inl ⟨by rfl, ?_⟩) ?_ ?_
                          rotate_left
                          · intro w'
                            go_simp
                            with_reducible rfl
                          rotate_left
                          · simp only [Act.put, List.setIfInBounds_toArray, List.set_cons_zero, List.set_cons_succ]
                            rfl
                          refine pure_ (i := 2) (N := some 73) (v := ?_) (a' := ?_) #[true, true, true, false, false, false, false, false, false, false, false, false] rfl rfl (by kernel_rfl) (fun _ _ _ h => h) (Or.inl ⟨by rfl, ?_⟩) ?_ ?_
                          rotate_left
                          · intro w'
                            go_simp
                            with_reducible rfl
                          rotate_left
                          · simp only [Act.put, List.setIfInBounds_toArray, List.set_cons_zero, List.set_cons_succ]
                            rfl
                          refine pure_ (i := 3) (N := some 74) (v := ?_) (a' := ?_) #[true, true, true, true, false, false, false, false, false, false, false, false] rfl rfl (by kernel_rfl) (fun _ _ _ h => h) (Or.inl ⟨by rfl, ?_⟩) ?_ ?_
                          rotate_left
                          · intro w'
                            go_simp
                            with_reducible rfl
                          rotate_left
                          · simp only [Act.put, List.setIfInBounds_toArray, List.set_cons_zero, List.set_cons_succ]
                            rfl
                          refine take_ (i := 4) (N := some 75) (v := (.int .i64 x.f2)) (a' := ?_) #[true, true, true, true, true, false, false, false, false, false, false, false] rfl rfl (by kernel_rfl) (fun _ _ _ h => h) (Or.inl ⟨by rfl, ?_⟩) hHeld ?_ ?_
                          rotate_left
                          rotate_left
                          · simp only [Act.put, List.setIfInBounds_toArray, List.set_cons_zero, List.set_cons_succ]
                            rfl
                          rotate_left
                          · rintro w' ⟨⟨s0, s1, s2⟩, s3⟩
                            go_simp
                          refine pure_ (i := 5) (N := some 76) (v := ?_) (a' := ?_) #[true, true, true, true, true, true, false, false, false, false, false, false] rfl rfl (by kernel_rfl) (fun _ _ _ h => h) (Or.inl ⟨by rfl, ?_⟩) ?_ ?_
                          rotate_left
                          · intro w'
                            go_simp
                            with_reducible rfl
                          rotate_left
                          · simp only [Act.put, List.setIfInBounds_toArray, List.set_cons_zero, List.set_cons_succ]
                            rfl
                          refine take_ (i := 6) (N := some 77) (v := (.string x.f0)) (a' := ?_) #[true, true, true, true, true, true, true, false, false, false, false, false] rfl rfl (by kernel_rfl) (fun _ _ _ h => h) (Or.inl ⟨by rfl, ?_⟩) hHeld ?_ ?_
                          rotate_left
                          rotate_left
                          · simp only [Act.put, List.setIfInBounds_toArray, List.set_cons_zero, List.set_cons_succ]
                            rfl
                          rotate_left
                          · rintro w' ⟨⟨s0, s1, s2⟩, s3⟩
                            go_simp
                          refine pure_ (i := 7) (N := some 78) (v := ?_) (a' := ?_) #[true, true, true, true, true, true, true, true, false, false, false, false] rfl rfl (by kernel_rfl) (fun _ _ _ h => h) (Or.inl ⟨by rfl, ?_⟩) ?_ ?_
                          rotate_left
                          · intro w'
                            go_simp
                            with_reducible rfl
                          rotate_left
                          · simp only [Act.put, List.setIfInBounds_toArray, List.set_cons_zero, List.set_cons_succ]
                            rfl
                          refine take_ (i := 8) (N := some 79) (v := (.slice A1 x.f1.length c1)) (a' := ?_) #[true, true, true, true, true, true, true, true, true, false, false, false] rfl rfl (by kernel_rfl) (fun _ _ _ h => h) (Or.inl ⟨by rfl, ?_⟩) hHeld ?_ ?_
                          rotate_left
                          rotate_left
                          · simp only [Act.put, List.setIfInBounds_toArray, List.set_cons_zero, List.set_cons_succ]
                            rfl
                          rotate_left
                          · rintro w' ⟨⟨s0, s1, s2⟩, s3⟩
                            go_simp
                          refine one_ (i := 9) (N := some 80) #[true, true, true, true, true, true, true, true, true, true, false, false] rfl rfl (by kernel_rfl) (by decide) (fun K hK => ?_)
                          refine goes_ Tryd.func43 (by kernel_rfl) rfl #[.int .i64 x.f2, .string x.f0, .slice A1 x.f1.length c1] (by rfl) rfl rfl (by first | rfl | (simp only [List.map_toArray, List.map_cons, List.map_nil]; rfl)) ?_
                          refine (is_calls x.f2 x.f0 A1 x.f1.length c1 _).mono ?_
                          rintro e w4 ⟨g1, g2, g3, rfl, hgs, h1, h2, h3, hb⟩
                          have H1 := Aside0.mk h1
                          have H2 := Aside0.mk h2
                          have H3 := Aside0.mk h3
                          refine ⟨_, rfl, hK.out _ _ (held3_step hHeld hb) (fun hHeld => ?_)⟩
                          clear hgs h1 h2 h3 hb
                          clear hK K
                          simp only [Act.put, List.setIfInBounds_toArray, List.set_cons_zero, List.set_cons_succ]
                          refine one_ (i := 10) (N := some 81) #[true, true, true, true, true, true, true, true, true, true, true, false] rfl rfl (by kernel_rfl) (by decide) (fun K hK => ?_)
                          refine goes_ Tryd.func42 (by kernel_rfl) rfl #[.slice (some ad) LT.length c, .func (.func 69) #[] #[.pointer (some ⟨g1, 0, none⟩), .pointer (some ⟨g2, 0, none⟩), .pointer (some ⟨g3, 0, none⟩)]] (by rfl) rfl rfl (by first | rfl | (simp only [List.map_toArray, List.map_cons, List.map_nil]; rfl)) ?_
                          refine (HCN.out g1 g2 g3 _ (below_step HB.out hHeld.2) hHeld.2 H1.out H2.out H3.out).mono ?_
                          rintro e w5 ⟨rfl, hb⟩
                          refine ⟨_, rfl, hK.out _ _ (held3_step hHeld hb) (fun hHeld => ?_)⟩
                          clear hb
                          clear hK K
                          simp only [Act.put, List.setIfInBounds_toArray, List.set_cons_zero, List.set_cons_succ]
                          refine pure_ (i := 11) (N := some 70) (v := ?_) (a' := ?_) #[true, true, true, true, true, true, true, true, true, true, true, true] rfl rfl (by kernel_rfl) (fun _ _ _ h => h) (Or.inl ⟨by rfl, ?_⟩) ?_ ?_
                          rotate_left
                          · intro w'
                            go_simp
                            with_reducible rfl
                          rotate_left
                          · simp only [Act.put, List.setIfInBounds_toArray, List.set_cons_zero, List.set_cons_succ]
                            rfl
                          refine done_ (n := 0) (by kernel_rfl) ?_
                          go_wp2
                          go_roundg k1
                          case measure => omega
                          case rel =>
                            have hi := HHI.out
                            refine ⟨i + 1, rfl, ⟨by omega, by omega⟩, ⟨fun j hj => ?_⟩, ⟨below_step HB.out hHeld.2⟩⟩
                            by_cases hji : j = i.toNat
                            · subst hji
                              rw [HPO.out, HKO.out]
                              rfl
                            · exact HZ.out j (by omega)
                        · rw [b3] at HKO HCN
                          clear b3
                          go_wp2_with (first
                            | (go_at_call 40; (with_reducible refine (HPX.out _ HBW.out).mono ?_); rintro e w2 ⟨rfl, hb⟩; have HBX := Aside0.mk ((hb.block wr.heap.size (blk_lt HBXN.out)).trans HBXN.out); have HB2 := Aside0.mk (below_step HBW.out hb); have hz0 := (blk_cell HBX.out 0).trans rfl; have hz1 := (blk_cell HBX.out 1).trans rfl; have hz2 := (blk_cell HBX.out 2).trans rfl; clear hb)
                            | (go_at_call 41; (with_reducible refine (HNA.out _).mono ?_); rintro e w3 ⟨rfl, hb⟩; clear hz0 hz1 hz2; have HBX3 := Aside0.mk ((hb.block wr.heap.size (blk_lt HBX.out)).trans HBX.out); have HB3 := Aside0.mk (below_step HB2.out hb); have hz0 := (blk_cell HBX3.out 0).trans rfl; have hz1 := (blk_cell HBX3.out 1).trans rfl; have hz2 := (blk_cell HBX3.out 2).trans rfl; clear hb))
                          refine start_ (n := 12) (S := fun w' => (w'.cell? ⟨wr.heap.size, 0, none⟩ = some (.string x.f0) ∧ w'.cell? ⟨wr.heap.size, 1, none⟩ = some (.slice A1 x.f1.length c1) ∧ w'.cell? ⟨wr.heap.size, 2, none⟩ = some (.int .i64 x.f2)) ∧ Below wr.heap.size wr w') (ds := []) #[false, false, false, false, false, false, false, false, false, false, false, false] (by kernel_rfl) rfl rfl (held3_start HBX3.out HB3.out) (fun hHeld => ?_)
                          refine pure_ (i := 0) (N := some 71) (v := ?_) (a' := ?_) #[true, false, false, false, false, false, false, false, false, false, false, false] rfl rfl (by kernel_rfl) (fun _ _ _ h => h) (Or.inl ⟨by rfl, ?_⟩) ?_ ?_
                          rotate_left
                          · intro w'
                            go_simp
                            with_reducible rfl
                          rotate_left
                          · simp only [Act.put, List.setIfInBounds_toArray, List.set_cons_zero, List.set_cons_succ]
                            rfl
                          refine pure_ (i := 1) (N := some 72) (v := ?_) (a' := ?_) #[true, true, false, false, false, false, false, false, false, false, false, false] rfl rfl (by kernel_rfl) (fun _ _ _ h => h) (Or.inl ⟨by rfl, ?_⟩) ?_ ?_
                          rotate_left
                          · intro w'
                            go_simp
                            with_reducible rfl
                          rotate_left
                          · simp only [Act.put, List.setIfInBounds_toArray, List.set_cons_zero, List.set_cons_succ]
                            rfl
                          refine pure_ (i := 2) (N := some 73) (v := ?_) (a' := ?_) #[true, true, true, false, false, false, false, false, false, false, false, false] rfl rfl (by kernel_rfl) (fun _ _ _ h => h) (Or.inl ⟨by rfl, ?_⟩) ?_ ?_
                          rotate_left
                          · intro w'
                            go_simp
                            with_reducible rfl
                          rotate_left
                          · simp only [Act.put, List.setIfInBounds_toArray, List.set_cons_zero, List.set_cons_succ]
                            rfl
                          refine pure_ (i := 3) (N := some 74) (v := ?_) (a' := ?_) #[true, true, true, true, false, false, false, false, false, false, false, false] rfl rfl (by kernel_rfl) (fun _ _ _ h => h) (Or.inl ⟨by rfl, ?_⟩) ?_ ?_
                          rotate_left
                          · intro w'
                            go_simp
                            with_reducible rfl
                          rotate_left
                          · simp only [Act.put, List.setIfInBounds_toArray, List.set_cons_zero, List.set_cons_succ]
                            rfl
                          refine take_ (i := 4) (N := some 75) (v := (.int .i64 x.f2)) (a' := ?_) #[true, true, true, true, true, false, false, false, false, false, false, false] rfl rfl (by kernel_rfl) (fun _ _ _ h => h) (Or.inl ⟨by rfl, ?_⟩) hHeld ?_ ?_
                          rotate_left
                          rotate_left
                          · simp only [Act.put, List.setIfInBounds_toArray, List.set_cons_zero, List.set_cons_succ]
                            rfl
                          rotate_left
                          · rintro w' ⟨⟨s0, s1, s2⟩, s3⟩
                            go_simp
                          refine pure_ (i := 5) (N := some 76) (v := ?_) (a' := ?_) #[true, true, true, true, true, true, false, false, false, false, false, false] rfl rfl (by kernel_rfl) (fun _ _ _ h => h) (Or.inl ⟨by rfl, ?_⟩) ?_ ?_
                          rotate_left
                          · intro w'
                            go_simp
                            with_reducible rfl
                          rotate_left
                          · simp only [Act.put, List.setIfInBounds_toArray, List.set_cons_zero, List.set_cons_succ]
                            rfl
                          refine take_ (i := 6) (N := some 77) (v := (.string x.f0)) (a' := ?_) #[true, true, true, true, true, true, true, false, false, false, false, false] rfl rfl (by kernel_rfl) (fun _ _ _ h => h) (Or.inl ⟨by rfl, ?_⟩) hHeld ?_ ?_
                          rotate_left
                          rotate_left
                          · simp only [Act.put, List.setIfInBounds_toArray, List.set_cons_zero, List.set_cons_succ]
                            rfl
                          rotate_left
                          · rintro w' ⟨⟨s0, s1, s2⟩, s3⟩
                            go_simp
                          refine pure_ (i := 7) (N := some 78) (v := ?_) (a' := ?_) #[true, true, true, true, true, true, true, true, false, false, false, false] rfl rfl (by kernel_rfl) (fun _ _ _ h => h) (Or.inl ⟨by rfl, ?_⟩) ?_ ?_
                          rotate_left
                          · intro w'
                            go_simp
                            with_reducible rfl
                          rotate_left
                          · simp only [Act.put, List.setIfInBounds_toArray, List.set_cons_zero, List.set_cons_succ]
                            rfl
                          refine take_ (i := 8) (N := some 79) (v := (.slice A1 x.f1.length c1)) (a' := ?_) #[true, true, true, true, true, true, true, true, true, false, false, false] rfl rfl (by kernel_rfl) (fun _ _ _ h => h) (Or.inl ⟨by rfl, ?_⟩) hHeld ?_ ?_
                          rotate_left
                          rotate_left
                          · simp only [Act.put, List.setIfInBounds_toArray, List.set_cons_zero, List.set_cons_succ]
                            rfl
                          rotate_left
                          · rintro w' ⟨⟨s0, s1, s2⟩, s3⟩
                            go_simp
                          refine one_ (i := 9) (N := some 80) #[true, true, true, true, true, true, true, true, true, true, false, false] rfl rfl (by kernel_rfl) (by decide) (fun K hK => ?_)
                          refine goes_ Tryd.func43 (by kernel_rfl) rfl #[.int .i64 x.f2, .string x.f0, .slice A1 x.f1.length c1] (by rfl) rfl rfl (by first | rfl | (simp only [List.map_toArray, List.map_cons, List.map_nil]; rfl)) ?_
                          refine (is_calls x.f2 x.f0 A1 x.f1.length c1 _).mono ?_
                          rintro e w4 ⟨g1, g2, g3, rfl, hgs, h1, h2, h3, hb⟩
                          have H1 := Aside0.mk h1
                          have H2 := Aside0.mk h2
                          have H3 := Aside0.mk h3
                          refine ⟨_, rfl, hK.out _ _ (held3_step hHeld hb) (fun hHeld => ?_)⟩
                          clear hgs h1 h2 h3 hb
                          clear hK K
                          simp only [Act.put, List.setIfInBounds_toArray, List.set_cons_zero, List.set_cons_succ]
                          refine one_ (i := 10) (N := some 81) #[true, true, true, true, true, true, true, true, true, true, true, false] rfl rfl (by kernel_rfl) (by decide) (fun K hK => ?_)
                          refine goes_ Tryd.func42 (by kernel_rfl) rfl #[.slice (some ad) LT.length c, .func (.func 69) #[] #[.pointer (some ⟨g1, 0, none⟩), .pointer (some ⟨g2, 0, none⟩), .pointer (some ⟨g3, 0, none⟩)]] (by rfl) rfl rfl (by first | rfl | (simp only [List.map_toArray, List.map_cons, List.map_nil]; rfl)) ?_
                          refine (HCN.out g1 g2 g3 _ (below_step HB.out hHeld.2) hHeld.2 H1.out H2.out H3.out).mono ?_
                          rintro e w5 ⟨rfl, hb⟩
                          refine ⟨_, rfl, hK.out _ _ (held3_step hHeld hb) (fun hHeld => ?_)⟩
                          clear hb
                          clear hK K
                          simp only [Act.put, List.setIfInBounds_toArray, List.set_cons_zero, List.set_cons_succ]
                          refine pure_ (i := 11) (N := some 70) (v := ?_) (a' := ?_) #[true, true, true, true, true, true, true, true, true, true, true, true] rfl rfl (by kernel_rfl) (fun _ _ _ h => h) (Or.inl ⟨by rfl, ?_⟩) ?_ ?_
                          rotate_left
                          · intro w'
                            go_simp
                            with_reducible rfl
                          rotate_left
                          · simp only [Act.put, List.setIfInBounds_toArray, List.set_cons_zero, List.set_cons_succ]
                            rfl
                          refine done_ (n := 0) (by kernel_rfl) ?_
                          go_wp2
                          go_ret
                          have hi := HHI.out
                          exact ⟨by rw [HPF.out, range_not _ _ i.toNat (by omega) (by rw [HPO.out, HKO.out]; rfl)]; rfl, below_step HB.out hHeld.2⟩
                      · rw [e6] at HKO
                        go_wp2_with (first
                          | (go_at_call 40; (with_reducible refine (HPX.out _ HBW.out).mono ?_); rintro e w2 ⟨rfl, hb⟩; have HBX := Aside0.mk ((hb.block wr.heap.size (blk_lt HBXN.out)).trans HBXN.out); have HB2 := Aside0.mk (below_step HBW.out hb); have hz0 := (blk_cell HBX.out 0).trans rfl; have hz1 := (blk_cell HBX.out 1).trans rfl; have hz2 := (blk_cell HBX.out 2).trans rfl; clear hb)
                          | (go_at_call 41; (with_reducible refine (HNA.out _).mono ?_); rintro e w3 ⟨rfl, hb⟩; clear hz0 hz1 hz2; have HBX3 := Aside0.mk ((hb.block wr.heap.size (blk_lt HBX.out)).trans HBX.out); have HB3 := Aside0.mk (below_step HB2.out hb); have hz0 := (blk_cell HBX3.out 0).trans rfl; have hz1 := (blk_cell HBX3.out 1).trans rfl; have hz2 := (blk_cell HBX3.out 2).trans rfl; clear hb))
                        go_ret
                        have hi := HHI.out
                        exact ⟨by rw [HPF.out, range_not _ _ i.toNat (by omega) (by rw [HPO.out, HKO.out]; rfl)]; rfl, below_step HB.out HB3.out⟩
                    · rw [e5] at HKO
                      go_wp2_with (first
                        | (go_at_call 40; (with_reducible refine (HPX.out _ HBW.out).mono ?_); rintro e w2 ⟨rfl, hb⟩; have HBX := Aside0.mk ((hb.block wr.heap.size (blk_lt HBXN.out)).trans HBXN.out); have HB2 := Aside0.mk (below_step HBW.out hb); have hz0 := (blk_cell HBX.out 0).trans rfl; have hz1 := (blk_cell HBX.out 1).trans rfl; have hz2 := (blk_cell HBX.out 2).trans rfl; clear hb)
                        | (go_at_call 41; (with_reducible refine (HNA.out _).mono ?_); rintro e w3 ⟨rfl, hb⟩; clear hz0 hz1 hz2; have HBX3 := Aside0.mk ((hb.block wr.heap.size (blk_lt HBX.out)).trans HBX.out); have HB3 := Aside0.mk (below_step HB2.out hb); have hz0 := (blk_cell HBX3.out 0).trans rfl; have hz1 := (blk_cell HBX3.out 1).trans rfl; have hz2 := (blk_cell HBX3.out 2).trans rfl; clear hb))
                      go_ret
                      have hi := HHI.out
                      exact ⟨by rw [HPF.out, range_not _ _ i.toNat (by omega) (by rw [HPO.out, HKO.out]; rfl)]; rfl, below_step HB.out HB3.out⟩
                  · rw [e4] at HKO
                    go_wp2_with (first
                      | (go_at_call 40; (with_reducible refine (HPX.out _ HBW.out).mono ?_); rintro e w2 ⟨rfl, hb⟩; have HBX := Aside0.mk ((hb.block wr.heap.size (blk_lt HBXN.out)).trans HBXN.out); have HB2 := Aside0.mk (below_step HBW.out hb); have hz0 := (blk_cell HBX.out 0).trans rfl; have hz1 := (blk_cell HBX.out 1).trans rfl; have hz2 := (blk_cell HBX.out 2).trans rfl; clear hb)
                      | (go_at_call 41; (with_reducible refine (HNA.out _).mono ?_); rintro e w3 ⟨rfl, hb⟩; clear hz0 hz1 hz2; have HBX3 := Aside0.mk ((hb.block wr.heap.size (blk_lt HBX.out)).trans HBX.out); have HB3 := Aside0.mk (below_step HB2.out hb); have hz0 := (blk_cell HBX3.out 0).trans rfl; have hz1 := (blk_cell HBX3.out 1).trans rfl; have hz2 := (blk_cell HBX3.out 2).trans rfl; clear hb))
                    go_ret
                    have hi := HHI.out
                    exact ⟨by rw [HPF.out, range_not _ _ i.toNat (by omega) (by rw [HPO.out, HKO.out]; rfl)]; rfl, below_step HB.out HB3.out⟩
              · rw [e0, b1, e1] at HPO
                have HRO := Aside0.mk (show rootOk x = ((x.f0.toList == ([] : List UInt8)) && (((x.f1.length : Int) == 0) && (x.f2 == -1))) from rfl)
                clear b1
                cases n0 : (x.f0.toList == ([] : List UInt8))
                · rw [n0] at HRO
                  have n0' : (x.f0.toList != ([] : List UInt8)) = true := by rw [bne, n0]; rfl
                  go_wp2_with (first
                    | (go_at_call 40; (with_reducible refine (HPX.out _ HBW.out).mono ?_); rintro e w2 ⟨rfl, hb⟩; have HBX := Aside0.mk ((hb.block wr.heap.size (blk_lt HBXN.out)).trans HBXN.out); have HB2 := Aside0.mk (below_step HBW.out hb); have hz0 := (blk_cell HBX.out 0).trans rfl; have hz1 := (blk_cell HBX.out 1).trans rfl; have hz2 := (blk_cell HBX.out 2).trans rfl; clear hb))
                  go_ret
                  have hi := HHI.out
                  exact ⟨by rw [HPF.out, range_not _ _ i.toNat (by omega) (by rw [HPO.out, HRO.out]; rfl)]; rfl, below_step HB.out HB2.out⟩
                · have n0' : (x.f0.toList != ([] : List UInt8)) = false := by rw [bne, n0]; rfl
                  cases u0 : ((x.f1.length : Int) == 0)
                  · rw [n0, u0] at HRO
                    have u0' : ((x.f1.length : Int) != 0) = true := by rw [bne, u0]; rfl
                    go_wp2_with (first
                      | (go_at_call 40; (with_reducible refine (HPX.out _ HBW.out).mono ?_); rintro e w2 ⟨rfl, hb⟩; have HBX := Aside0.mk ((hb.block wr.heap.size (blk_lt HBXN.out)).trans HBXN.out); have HB2 := Aside0.mk (below_step HBW.out hb); have hz0 := (blk_cell HBX.out 0).trans rfl; have hz1 := (blk_cell HBX.out 1).trans rfl; have hz2 := (blk_cell HBX.out 2).trans rfl; clear hb))
                    go_ret
                    have hi := HHI.out
                    exact ⟨by rw [HPF.out, range_not _ _ i.toNat (by omega) (by rw [HPO.out, HRO.out]; rfl)]; rfl, below_step HB.out HB2.out⟩
                  · have u0' : ((x.f1.length : Int) != 0) = false := by rw [bne, u0]; rfl
                    cases p0 : (x.f2 == -1)
                    · rw [n0, u0, p0] at HRO
                      have p0' : (x.f2 != -1) = true := by rw [bne, p0]; rfl
                      go_wp2_with (first
                        | (go_at_call 40; (with_reducible refine (HPX.out _ HBW.out).mono ?_); rintro e w2 ⟨rfl, hb⟩; have HBX := Aside0.mk ((hb.block wr.heap.size (blk_lt HBXN.out)).trans HBXN.out); have HB2 := Aside0.mk (below_step HBW.out hb); have hz0 := (blk_cell HBX.out 0).trans rfl; have hz1 := (blk_cell HBX.out 1).trans rfl; have hz2 := (blk_cell HBX.out 2).trans rfl; clear hb))
                      go_ret
                      have hi := HHI.out
                      exact ⟨by rw [HPF.out, range_not _ _ i.toNat (by omega) (by rw [HPO.out, HRO.out]; rfl)]; rfl, below_step HB.out HB2.out⟩
                    · rw [n0, u0, p0] at HRO
                      have p0' : (x.f2 != -1) = false := by rw [bne, p0]; rfl
                      go_wp2_with (first
                        | (go_at_call 40; (with_reducible refine (HPX.out _ HBW.out).mono ?_); rintro e w2 ⟨rfl, hb⟩; have HBX := Aside0.mk ((hb.block wr.heap.size (blk_lt HBXN.out)).trans HBXN.out); have HB2 := Aside0.mk (below_step HBW.out hb); have hz0 := (blk_cell HBX.out 0).trans rfl; have hz1 := (blk_cell HBX.out 1).trans rfl; have hz2 := (blk_cell HBX.out 2).trans rfl; clear hb))
                      go_roundg k1
                      case measure => omega
                      case rel =>
                        have hi := HHI.out
                        refine ⟨i + 1, rfl, ⟨by omega, by omega⟩, ⟨fun j hj => ?_⟩, ⟨below_step HB.out HB2.out⟩⟩
                        by_cases hji : j = i.toNat
                        · subst hji
                          rw [HPO.out, HRO.out]
                          rfl
                        · exact HZ.out j (by omega)
          · rw [e0] at HPO
            go_wp2
            go_ret
            have hi := HHI.out
            exact ⟨by rw [HPF.out, range_not _ _ i.toNat (by omega) (by rw [HPO.out]; rfl)]; rfl, below_step HB.out (by first | exact HBW.out | exact HB2.out)⟩
    · have HPF := Aside0.mk (show treeF l = false by unfold treeF; rw [h0, h32]; rfl)
      clear hC hc hm
      go_enter Tryd.func12, Tryd.ntmps12
      go_wp2
      go_ret
      exact ⟨by rw [HPF.out]; rfl, Below.refl _ _⟩
  · have HPF := Aside0.mk (show treeF l = false by unfold treeF; rw [h0]; rfl)
    clear hC hc hm
    go_enter Tryd.func12, Tryd.ntmps12
    go_wp2
    go_ret
    exact ⟨by rw [HPF.out]; rfl, Below.refl _ _⟩
end Go.Proofs.YtnalcjgefbelnaaDoor.Q
end
section
set_option linter.unusedVariables false
namespace Go.Proofs.YtnalcjgefbelnaaDoor.Q
open Go.RowKit Go.Proofs.YtnalcjgefbelnaaDoorW.PrintWords Go.Proofs.YtnalcjgefbelnaaDoorW.PrintLast
def tree_Formed.f (l0 : List S44) : Option Bool := some (treeF l0)
theorem tree_Formed.calls (A0 : Option Addr) (c0 : Nat) (l0 : List S44) (r : Bool) (w : World) (hr0 : Kd.C k44 w A0 l0.length l0) (hc0 : l0.length ≤ c0) (h : tree_Formed.f l0 = some r) :
    Calls Tryd.prog 12 #[.slice A0 l0.length c0] w fun e w' => e = .returned (.bool r) ∧ Below w.heap.size w w' := by
  obtain rfl := Option.some.inj h
  exact treeFormed_calls A0 c0 l0 w hr0 hc0
/-- Lists short enough for a copy to be made. -/
def shortP (x : S53) : Bool := decide (x.f1.length < 140737488355328)
def shortN (x : S44) : Bool := decide (x.f1.length * 4 < 140737488355328) && (decide (x.f4.length * 4 < 140737488355328) && (decide (x.f3.length * 40 < 140737488355328) && x.f3.all shortP))
def shortT (l : List S44) : Bool := decide (l.length * 96 < 140737488355328) && l.all shortN
theorem shortN_G {x : S44} (h : shortN x = true) : G91 x := by
  simp only [shortN, Bool.and_eq_true, decide_eq_true_eq, List.all_eq_true] at h
  exact ⟨h.1, h.2.1, h.2.2.1, fun p hp => by
    have := h.2.2.2 p hp
    simp only [shortP, decide_eq_true_eq] at this
    show p.f1.length * 1 < _
    omega⟩
def tree_Copy.f (l0 : List S44) : Option (List S44) := if shortT l0 = true then some l0 else none
theorem tree_Copy.calls (A0 : Option Addr) (c0 : Nat) (l0 : List S44) (r : List S44) (w : World) (hr0 : Kd.C k44 w A0 l0.length l0) (hc0 : l0.length ≤ c0) (h : tree_Copy.f l0 = some r) :
    Calls Tryd.prog 15 #[.slice A0 l0.length c0] w fun e w' => ∃ v0_ : Value, e = .returned (v0_) ∧ Kd.S k44 44 w' w.heap.size (fun _ => True) v0_ r ∧ Below w.heap.size w w' := by
  unfold tree_Copy.f at h
  by_cases hs : shortT l0 = true
  · rw [if_pos hs] at h
    obtain rfl := Option.some.inj h
    simp only [shortT, Bool.and_eq_true, decide_eq_true_eq, List.all_eq_true] at hs
    exact treeCopy_calls A0 c0 l0 w hr0 hc0 hs.1 (fun x hx => shortN_G (hs.2 x hx))
  · rw [if_neg hs] at h
    cases h
def slices_Clone_uint32_uint32.f (l0 : List Int) : Option (List Int) := if l0.length * 4 < 140737488355328 then some l0 else none
theorem slices_Clone_uint32_uint32.calls (A0 : Option Addr) (c0 : Nat) (l0 : List Int) (r : List Int) (w : World) (hr0 : Kd.C (Kd.int .u32) w A0 l0.length l0) (hc0 : l0.length ≤ c0) (h : slices_Clone_uint32_uint32.f l0 = some r) :
    Calls Tryd.prog 48 #[.slice A0 l0.length c0] w fun e w' => ∃ v0_ : Value, e = .returned (v0_) ∧ Kd.R (Kd.int .u32) 66 w' w.heap.size (fun _ => True) v0_ r ∧ Below w.heap.size w w' := by
  unfold slices_Clone_uint32_uint32.f at h
  by_cases hs : l0.length * 4 < 140737488355328
  · rw [if_pos hs] at h
    obtain rfl := Option.some.inj h
    exact cloneU32_calls A0 c0 l0 w hr0 hs
  · rw [if_neg hs] at h
    cases h
def slices_Clone_byte_byte.f (l0 : List Int) : Option (List Int) := if l0.length < 140737488355328 then some l0 else none
theorem slices_Clone_byte_byte.calls (A0 : Option Addr) (c0 : Nat) (l0 : List Int) (r : List Int) (w : World) (hr0 : Kd.C (Kd.int .u8) w A0 l0.length l0) (hc0 : l0.length ≤ c0) (h : slices_Clone_byte_byte.f l0 = some r) :
    Calls Tryd.prog 50 #[.slice A0 l0.length c0] w fun e w' => ∃ v0_ : Value, e = .returned (v0_) ∧ Kd.R (Kd.int .u8) 5 w' w.heap.size (fun _ => True) v0_ r ∧ Below w.heap.size w w' := by
  unfold slices_Clone_byte_byte.f at h
  by_cases hs : l0.length < 140737488355328
  · rw [if_pos hs] at h
    obtain rfl := Option.some.inj h
    exact cloneByte_calls A0 c0 l0 w hr0 (by omega)
  · rw [if_neg hs] at h
    cases h
end Go.Proofs.YtnalcjgefbelnaaDoor.Q
end
section
namespace Go.Proofs.YtnalcjgefbelnaaDoor.Q
open Go.RowKit Go.Proofs.YtnalcjgefbelnaaDoorW.PrintWords Go.Proofs.YtnalcjgefbelnaaDoorW.PrintLast Go.Proofs.YtnalcjgefbelnaaDoorW.PrintMore
set_option linter.unusedVariables false
set_option linter.unusedSimpArgs false

attribute [local go_sem] max2_int min2_int max_two min_two max_three min_three max_four min_four
/-! ### tree_check: function 53 -/
def tree_check.f (l0 : List (S44)) (a1 : Int) : Option (Int) := (tree_Formed.f l0).bind fun t54001 => (if t54001 = true then (if a1 < 0 then (some 19) else (if a1 ≥ (l0.length : Int) then (some 19) else (some 0))) else (some 1))
set_option maxHeartbeats 8000000 in
set_option maxRecDepth 100000 in
theorem tree_check.calls (A0 : Option Addr) (c0 : Nat) (l0 : List (S44)) (a1 : Int) (r : Int) (w : World) (hr0 : Kd.C k44 w A0 l0.length l0) (hc0 : l0.length ≤ c0) (h : tree_check.f l0 a1 = some r) :
    Calls Tryd.prog 53 #[.slice A0 l0.length c0, .int .i64 a1] w fun e w' => e = .returned (.int .i64 r) ∧ Below w.heap.size w w' := by
  have HR0 := Aside0.mk hr0
  have HC0 := Aside0.mk hc0
  clear hr0 hc0
  have HB := Aside0.mk (Below.refl w.heap.size w)
  have H : ((tree_Formed.f l0).bind fun t54001 => (if t54001 = true then (if a1 < 0 then (some 19) else (if a1 ≥ (l0.length : Int) then (some 19) else (some 0))) else (some 1))) = some r := h
  clear h
  replace H := Option.bind_eq_some_iff.mp H
  obtain ⟨t54001, A30, H⟩ := H
  replace H : (if t54001 = true then (if a1 < 0 then (some 19) else (if a1 ≥ (l0.length : Int) then (some 19) else (some 0))) else (some 1)) = some r := H
  have A3 := Aside0.mk A30
  clear A30
  by_cases c4 : t54001 = true
  · subst c4
    have H1 : (if a1 < 0 then (some 19) else (if a1 ≥ (l0.length : Int) then (some 19) else (some 0))) = some r := by rw [if_pos rfl] at H; exact H
    clear H
    have H := H1
    clear H1
    by_cases c5 : a1 < 0
    · rw [if_pos c5] at H
      have c5b0 : decide (a1 < 0) = true := decide_eq_true c5
      clear c5
      obtain rfl := Option.some.inj H
      go_enter Tryd.func53, Tryd.ntmps53
      go_wp2_with (first | ((with_reducible refine gate_callee (f := 12) rfl ?_); refine goesL_ (some 7) rfl rfl Tryd.func12 (by kernel_rfl) rfl #[.slice A0 l0.length c0] rfl (by (try simp only [List.map_toArray, List.map_cons, List.map_nil]); first | done | rfl | (simp only [List.length_drop, List.length_take]; rfl)) ?_; (with_reducible refine (tree_Formed.calls _ _ l0 true _ ?side1 ?side2 A3.out).mono ?_); (case side1 => repeat (first | exact HR0.out | (with_reducible refine Kd.C_alloc ?_ _) | (with_reducible refine Kd.C_drewN ?_ _) | (with_reducible refine Kd.C_drew ?_))); (case side2 => exact HC0.out); rintro e w6 ⟨rfl, hb⟩; refine ⟨_, rfl, ?_⟩; have n0_ := Aside0.mk (below_step (by repeat (first | (with_reducible first | exact HB.out | apply below_alloc | apply pw_below_drewN | apply below_drew1) | exact HB.out)) hb); clear HB; have HB := n0_; clear n0_; (try clear hb); (try clear hb2); (try clear hk); (try clear hi)))
      go_ret
      exact ⟨by first | rfl | (simp [errW_none, errW_some] <;> rfl) | (simp [*, errW_none, errW_some] <;> rfl), by repeat (first | (with_reducible first | exact HB.out | apply below_alloc | apply pw_below_drewN | apply below_drew1) | exact HB.out)⟩
    · rw [if_neg c5] at H
      have c5b0 : decide (a1 < 0) = false := decide_eq_false c5
      clear c5
      by_cases c7 : a1 ≥ (l0.length : Int)
      · rw [if_pos c7] at H
        have c7b0 : decide ((l0.length : Int) ≤ a1) = true := decide_eq_true c7
        clear c7
        obtain rfl := Option.some.inj H
        go_enter Tryd.func53, Tryd.ntmps53
        go_wp2_with (first | ((with_reducible refine gate_callee (f := 12) rfl ?_); refine goesL_ (some 7) rfl rfl Tryd.func12 (by kernel_rfl) rfl #[.slice A0 l0.length c0] rfl (by (try simp only [List.map_toArray, List.map_cons, List.map_nil]); first | done | rfl | (simp only [List.length_drop, List.length_take]; rfl)) ?_; (with_reducible refine (tree_Formed.calls _ _ l0 true _ ?side1 ?side2 A3.out).mono ?_); (case side1 => repeat (first | exact HR0.out | (with_reducible refine Kd.C_alloc ?_ _) | (with_reducible refine Kd.C_drewN ?_ _) | (with_reducible refine Kd.C_drew ?_))); (case side2 => exact HC0.out); rintro e w8 ⟨rfl, hb⟩; refine ⟨_, rfl, ?_⟩; have n0_ := Aside0.mk (below_step (by repeat (first | (with_reducible first | exact HB.out | apply below_alloc | apply pw_below_drewN | apply below_drew1) | exact HB.out)) hb); clear HB; have HB := n0_; clear n0_; (try clear hb); (try clear hb2); (try clear hk); (try clear hi)))
        go_ret
        exact ⟨by first | rfl | (simp [errW_none, errW_some] <;> rfl) | (simp [*, errW_none, errW_some] <;> rfl), by repeat (first | (with_reducible first | exact HB.out | apply below_alloc | apply pw_below_drewN | apply below_drew1) | exact HB.out)⟩
      · rw [if_neg c7] at H
        have c7b0 : decide ((l0.length : Int) ≤ a1) = false := decide_eq_false c7
        clear c7
        obtain rfl := Option.some.inj H
        go_enter Tryd.func53, Tryd.ntmps53
        go_wp2_with (first | ((with_reducible refine gate_callee (f := 12) rfl ?_); refine goesL_ (some 7) rfl rfl Tryd.func12 (by kernel_rfl) rfl #[.slice A0 l0.length c0] rfl (by (try simp only [List.map_toArray, List.map_cons, List.map_nil]); first | done | rfl | (simp only [List.length_drop, List.length_take]; rfl)) ?_; (with_reducible refine (tree_Formed.calls _ _ l0 true _ ?side1 ?side2 A3.out).mono ?_); (case side1 => repeat (first | exact HR0.out | (with_reducible refine Kd.C_alloc ?_ _) | (with_reducible refine Kd.C_drewN ?_ _) | (with_reducible refine Kd.C_drew ?_))); (case side2 => exact HC0.out); rintro e w9 ⟨rfl, hb⟩; refine ⟨_, rfl, ?_⟩; have n0_ := Aside0.mk (below_step (by repeat (first | (with_reducible first | exact HB.out | apply below_alloc | apply pw_below_drewN | apply below_drew1) | exact HB.out)) hb); clear HB; have HB := n0_; clear n0_; (try clear hb); (try clear hb2); (try clear hk); (try clear hi)))
        go_ret
        exact ⟨by first | rfl | (simp [errW_none, errW_some] <;> rfl) | (simp [*, errW_none, errW_some] <;> rfl), by repeat (first | (with_reducible first | exact HB.out | apply below_alloc | apply pw_below_drewN | apply below_drew1) | exact HB.out)⟩
  · replace c4 := Bool.eq_false_iff.mpr c4
    subst c4
    have H1 : (some 1) = some r := by rw [if_neg (show ¬ (false = true) by decide)] at H; exact H
    clear H
    have H := H1
    clear H1
    obtain rfl := Option.some.inj H
    go_enter Tryd.func53, Tryd.ntmps53
    go_wp2_with (first | ((with_reducible refine gate_callee (f := 12) rfl ?_); refine goesL_ (some 7) rfl rfl Tryd.func12 (by kernel_rfl) rfl #[.slice A0 l0.length c0] rfl (by (try simp only [List.map_toArray, List.map_cons, List.map_nil]); first | done | rfl | (simp only [List.length_drop, List.length_take]; rfl)) ?_; (with_reducible refine (tree_Formed.calls _ _ l0 false _ ?side1 ?side2 A3.out).mono ?_); (case side1 => repeat (first | exact HR0.out | (with_reducible refine Kd.C_alloc ?_ _) | (with_reducible refine Kd.C_drewN ?_ _) | (with_reducible refine Kd.C_drew ?_))); (case side2 => exact HC0.out); rintro e w10 ⟨rfl, hb⟩; refine ⟨_, rfl, ?_⟩; have n0_ := Aside0.mk (below_step (by repeat (first | (with_reducible first | exact HB.out | apply below_alloc | apply pw_below_drewN | apply below_drew1) | exact HB.out)) hb); clear HB; have HB := n0_; clear n0_; (try clear hb); (try clear hb2); (try clear hk); (try clear hi)))
    go_ret
    exact ⟨by first | rfl | (simp [errW_none, errW_some] <;> rfl) | (simp [*, errW_none, errW_some] <;> rfl), by repeat (first | (with_reducible first | exact HB.out | apply below_alloc | apply pw_below_drewN | apply below_drew1) | exact HB.out)⟩

end Go.Proofs.YtnalcjgefbelnaaDoor.Q
end
section
set_option linter.unusedSimpArgs false
set_option linter.unusedVariables false
namespace Go.Proofs.YtnalcjgefbelnaaDoor.Q
open Go.RowKit Go.Proofs.YtnalcjgefbelnaaDoorW.PrintWords Go.Proofs.YtnalcjgefbelnaaDoorW.PrintLast Go.Proofs.YtnalcjgefbelnaaDoorW.PrintMore
attribute [local go_sem] max2_int min2_int max_two min_two max_three min_three max_four min_four
def tree_Add.f (l0 : List S44) (a1 : Int) (a2 : ByteArray) (l3 : List Int) : Option (List S44 × Int × Int) := (tree_check.f l0 a1).bind fun e => if e = 0 then (if namedF a2 = true then (if (4 : Int) < (l3.length : Int) then some (([] : List S44), 0, 1) else (if l0.any (isN a1 a2 l3) = true then some (([] : List S44), 0, 20) else (if (l0.length : Int) = 32 then some (([] : List S44), 0, 22) else (if l0.length ≤ 32 ∧ shortT l0 = true then some (l0 ++ [(⟨a2, l3, a1, [], []⟩ : S44)], (l0.length : Int), 0) else none)))) else some (([] : List S44), 0, 1)) else some (([] : List S44), 0, e)
set_option maxHeartbeats 8000000 in
set_option maxRecDepth 100000 in
theorem tree_Add.calls (A0 : Option Addr) (c0 : Nat) (l0 : List S44) (a1 : Int) (a2 : ByteArray) (A3 : Option Addr) (c3 : Nat) (l3 : List Int) (r1 : List S44) (r2 r3 : Int) (w : World) (hr0 : Kd.C k44 w A0 l0.length l0) (hc0 : l0.length ≤ c0) (hr3 : Kd.C (Kd.int .u32) w A3 l3.length l3) (hc3 : l3.length ≤ c3) (h : tree_Add.f l0 a1 a2 l3 = some (r1, r2, r3)) :
    Calls Tryd.prog 19 #[.slice A0 l0.length c0, .int .i64 a1, .string a2, .slice A3 l3.length c3] w fun e w' => ∃ v0_ : Value, e = .returned (.tuple #[v0_, .int .i64 r2, .int .i64 r3]) ∧ Kd.R k44 44 w' w.heap.size (fun _ => True) v0_ r1 ∧ Below w.heap.size w w' := by
  have hu44 := Tryd.underlying44
  unfold tree_Add.f at h
  obtain ⟨e0, A1, H⟩ := Option.bind_eq_some_iff.mp h
  clear h
  have HCK := Aside0.mk (tree_check.calls A0 c0 l0 a1 e0 w hr0 hc0 A1)
  have HNM := Aside0.mk (fun (W : World) => prop_Named.calls 400 a2 (namedF a2) W (named_eq 400 (by decide) a2))
  have HC0 := Aside0.mk hr0
  have HC3 := Aside0.mk hr3
  have HK0 := Aside0.mk hc0
  have HK3 := Aside0.mk hc3
  have HCN := Aside0.mk (fun (g1 g2 g3 : Nat) (W : World) (hb : Below w.heap.size w W) (h1 : W.heap[g1]? = some (.cells #[.int .i64 a1] 3 (0, 0))) (h2 : W.heap[g2]? = some (.cells #[.string a2] 9 (0, 0))) (h3 : W.heap[g3]? = some (.cells #[.slice A3 l3.length c3] 31 (0, 0))) => containsNode_calls a1 a2 l3 A3 c3 g1 g2 g3 A0 c0 l0 W (Kd.C_below hr0 hb) h1 h2 h3 (Kd.C_below hr3 hb) hc3)
  clear hr0 hc0 hr3 hc3 A1
  by_cases he : e0 = 0
  · subst he
    rw [if_pos rfl] at H
    cases hn : namedF a2
    · rw [if_neg (by rw [hn]; decide)] at H
      simp only [Option.some.injEq, Prod.mk.injEq] at H
      obtain ⟨rfl, rfl, rfl⟩ := H
      rw [hn] at HNM
      clear hn
      go_enter Tryd.func19, Tryd.ntmps19
      go_wp2_with (first
        | (go_at_call 53; refine HCK.out.mono ?_; rintro e w1 ⟨rfl, hb⟩; have HB := Aside0.mk hb; clear hb)
        | (go_at_call 41; refine (HNM.out _).mono ?_; rintro e w2 ⟨rfl, hb⟩; replace HB := Aside0.mk (below_step HB.out hb); clear hb))
      exact bodyPost_ret (results_tmp3 rfl _ _ _) rfl ⟨_, rfl, Kd.R_nil _ _ _ _ _, HB.out⟩
    · rw [if_pos hn] at H
      rw [hn] at HNM
      clear hn
      by_cases h4 : (4 : Int) < (l3.length : Int)
      · rw [if_pos h4] at H
        simp only [Option.some.injEq, Prod.mk.injEq] at H
        obtain ⟨rfl, rfl, rfl⟩ := H
        have d4 : decide ((4 : Int) < (l3.length : Int)) = true := decide_eq_true h4
        go_enter Tryd.func19, Tryd.ntmps19
        go_wp2_with (first
          | (go_at_call 53; refine HCK.out.mono ?_; rintro e w1 ⟨rfl, hb⟩; have HB := Aside0.mk hb; clear hb)
          | (go_at_call 41; refine (HNM.out _).mono ?_; rintro e w2 ⟨rfl, hb⟩; replace HB := Aside0.mk (below_step HB.out hb); clear hb))
        exact bodyPost_ret (results_tmp3 rfl _ _ _) rfl ⟨_, rfl, Kd.R_nil _ _ _ _ _, HB.out⟩
      · rw [if_neg h4] at H
        have d4 : decide ((4 : Int) < (l3.length : Int)) = false := decide_eq_false h4
        have HCU := Aside0.mk (show slices_Clone_uint32_uint32.f l3 = some l3 by unfold slices_Clone_uint32_uint32.f; rw [if_pos (by omega)])
        clear h4
        cases ha : l0.any (isN a1 a2 l3)
        · rw [if_neg (by rw [ha]; decide)] at H
          rw [ha] at HCN
          clear ha
          by_cases h32 : (l0.length : Int) = 32
          · rw [if_pos h32] at H
            simp only [Option.some.injEq, Prod.mk.injEq] at H
            obtain ⟨rfl, rfl, rfl⟩ := H
            have d32 : ((l0.length : Int) == 32) = true := beq_iff_eq.2 h32
            clear h32
            go_enter Tryd.func19, Tryd.ntmps19
            go_wp2_with (first
              | (go_at_call 53; refine HCK.out.mono ?_; rintro e w1 ⟨rfl, hb⟩; have HB := Aside0.mk hb; clear hb)
              | (go_at_call 41; refine (HNM.out _).mono ?_; rintro e w2 ⟨rfl, hb⟩; replace HB := Aside0.mk (below_step HB.out hb); clear hb)
              | (go_at_call 43; (with_reducible refine (is_calls a1 a2 A3 l3.length c3 _).mono ?_); rintro e w3 ⟨g1, g2, g3, rfl, hgs, h1, h2, h3, hb⟩; replace HB := Aside0.mk (below_step HB.out hb); have H1 := Aside0.mk h1; have H2 := Aside0.mk h2; have H3 := Aside0.mk h3; clear hgs h1 h2 h3 hb)
              | (go_at_call 42; (with_reducible refine (HCN.out g1 g2 g3 _ HB.out H1.out H2.out H3.out).mono ?_); rintro e w4 ⟨rfl, hb⟩; replace HB := Aside0.mk (below_step HB.out hb); clear hb))
            exact bodyPost_ret (results_tmp3 rfl _ _ _) rfl ⟨_, rfl, Kd.R_nil _ _ _ _ _, HB.out⟩
          · rw [if_neg h32] at H
            have d32 : ((l0.length : Int) == 32) = false := beq_eq_false_iff_ne.2 h32
            by_cases hs : l0.length ≤ 32 ∧ shortT l0 = true
            · rw [if_pos hs] at H
              simp only [Option.some.injEq, Prod.mk.injEq] at H
              obtain ⟨rfl, rfl, rfl⟩ := H
              have HCP := Aside0.mk (show tree_Copy.f l0 = some l0 by unfold tree_Copy.f; rw [if_pos hs.2])
              have HLN := Aside0.mk hs.1
              clear h32 hs
              go_enter Tryd.func19, Tryd.ntmps19
              go_wp2_with (first
                | (go_at_call 53; refine HCK.out.mono ?_; rintro e w1 ⟨rfl, hb⟩; have HB := Aside0.mk hb; clear hb)
                | (go_at_call 41; refine (HNM.out _).mono ?_; rintro e w2 ⟨rfl, hb⟩; replace HB := Aside0.mk (below_step HB.out hb); clear hb)
                | (go_at_call 43; (with_reducible refine (is_calls a1 a2 A3 l3.length c3 _).mono ?_); rintro e w3 ⟨g1, g2, g3, rfl, hgs, h1, h2, h3, hb⟩; replace HB := Aside0.mk (below_step HB.out hb); have H1 := Aside0.mk h1; have H2 := Aside0.mk h2; have H3 := Aside0.mk h3; clear hgs h1 h2 h3 hb)
                | (go_at_call 42; (with_reducible refine (HCN.out g1 g2 g3 _ HB.out H1.out H2.out H3.out).mono ?_); rintro e w4 ⟨rfl, hb⟩; replace HB := Aside0.mk (below_step HB.out hb); clear hb)
                | (go_at_call 15; (with_reducible refine (tree_Copy.calls A0 c0 l0 l0 _ (Kd.C_below HC0.out HB.out) HK0.out HCP.out).mono ?_); rintro e w5 ⟨v5, rfl, ho, hb⟩; replace ho := Kd.S_R ho; obtain ⟨A5, c5, rfl⟩ := Kd.R_slice ho; have HO5 := Aside0.mk (Kd.R_lower ho HB.out.size); have HLT := Aside0.mk (Kd.R_lt ho); replace HB := Aside0.mk (below_step HB.out hb); clear ho hb)
                | (go_at_call 48; (with_reducible refine (slices_Clone_uint32_uint32.calls A3 c3 l3 l3 _ (Kd.C_below HC3.out HB.out) HK3.out HCU.out).mono ?_); rintro e w6 ⟨v6, rfl, ho, hb⟩; obtain ⟨A6, c6, rfl⟩ := Kd.R_slice ho; have HO6 := Aside0.mk (Kd.R_lower (Kd.R_mono (Kd.R_bound ho) (ok' := fun k => w5.heap.size ≤ k) (fun k hk => hk.2.1)) HB.out.size); replace HO5 := Aside0.mk (Kd.R_below HO5.out hb); have HS6 := Aside0.mk hb.size; replace HB := Aside0.mk (below_step HB.out hb); clear ho hb)
                | ((with_reducible refine gate_builtin (b := .append) (xs := #[.tmp 39, .tmp 45]) rfl ?_); at_builtin; refine Kd.R_append k44 (w0 := w) w.heap.size rfl (.tmp 39) (.tmp 45) 22 44 (.agg #[(.string ⟨#[]⟩), (.slice none 0 0), (.int .i64 0), (.slice none 0 0), (.slice none 0 0)]) 96 rfl Tryd.underlying22 info44 rfl (by decide) (by decide) (.slice A5 l0.length c5) l0 (⟨a2, l3, a1, [], []⟩ : S44) [.string a2, .slice A6 l3.length c6, .int .i64 a1, .slice none 0 0, .slice none 0 0] (fun _ => True) (fun k => w5.heap.size ≤ k) rfl rfl (k44_mkM _ _ _ _ HO6.out (Kd.R_nil _ _ _ _ _) (Kd.R_nil _ _ _ _ _)) (fun k hk => ⟨trivial, fun e => by have := HLT.out k e.symm; omega⟩) (fun _ _ => trivial) HO5.out HB.out HB.out.size (by have := HLN.out; omega) ?_; intro v7 w7 ho hb hg hat; obtain ⟨A7, c7, rfl⟩ := Kd.R_slice ho; have HO7 := Aside0.mk ho; have HB7 := Aside0.mk hb; clear ho hb hg hat))
              exact bodyPost_ret (results_tmp3 rfl _ _ _) rfl ⟨.slice A7 (l0.length + 1) c7, rfl, by have h := HO7.out; rwa [show (l0 ++ [(⟨a2, l3, a1, [], []⟩ : S44)]).length = l0.length + 1 from by simp] at h, HB7.out⟩
            · rw [if_neg hs] at H
              cases H
        · rw [if_pos ha] at H
          rw [ha] at HCN
          clear ha
          simp only [Option.some.injEq, Prod.mk.injEq] at H
          obtain ⟨rfl, rfl, rfl⟩ := H
          go_enter Tryd.func19, Tryd.ntmps19
          go_wp2_with (first
            | (go_at_call 53; refine HCK.out.mono ?_; rintro e w1 ⟨rfl, hb⟩; have HB := Aside0.mk hb; clear hb)
            | (go_at_call 41; refine (HNM.out _).mono ?_; rintro e w2 ⟨rfl, hb⟩; replace HB := Aside0.mk (below_step HB.out hb); clear hb)
            | (go_at_call 43; (with_reducible refine (is_calls a1 a2 A3 l3.length c3 _).mono ?_); rintro e w3 ⟨g1, g2, g3, rfl, hgs, h1, h2, h3, hb⟩; replace HB := Aside0.mk (below_step HB.out hb); have H1 := Aside0.mk h1; have H2 := Aside0.mk h2; have H3 := Aside0.mk h3; clear hgs h1 h2 h3 hb)
            | (go_at_call 42; (with_reducible refine (HCN.out g1 g2 g3 _ HB.out H1.out H2.out H3.out).mono ?_); rintro e w4 ⟨rfl, hb⟩; replace HB := Aside0.mk (below_step HB.out hb); clear hb))
          exact bodyPost_ret (results_tmp3 rfl _ _ _) rfl ⟨_, rfl, Kd.R_nil _ _ _ _ _, HB.out⟩
  · rw [if_neg he] at H
    simp only [Option.some.injEq, Prod.mk.injEq] at H
    obtain ⟨rfl, rfl, rfl⟩ := H
    have heb : (e0 == 0) = false := beq_eq_false_iff_ne.2 he
    have heb2 : (e0 != 0) = true := bne_iff_ne.2 he
    clear he
    go_enter Tryd.func19, Tryd.ntmps19
    go_wp2_with (first
      | (go_at_call 53; refine HCK.out.mono ?_; rintro e w1 ⟨rfl, hb⟩; have HB := Aside0.mk hb; clear hb))
    exact bodyPost_ret (results_tmp3 rfl _ _ _) rfl ⟨_, rfl, Kd.R_nil _ _ _ _ _, HB.out⟩
end Go.Proofs.YtnalcjgefbelnaaDoor.Q
end
section
set_option linter.unusedSimpArgs false
set_option linter.unusedVariables false
namespace Go.Proofs.YtnalcjgefbelnaaDoor.Q
open Go.RowKit Go.Proofs.YtnalcjgefbelnaaDoorW.PrintWords Go.Proofs.YtnalcjgefbelnaaDoorW.PrintLast Go.Proofs.YtnalcjgefbelnaaDoorW.PrintMore
attribute [local go_sem] max2_int min2_int max_two min_two max_three min_three max_four min_four
theorem info49s : (Tryd.prog.info? 49).map (·.size) = some 3 := by kernel_rfl
theorem seg_row (cur cs : List Value) (sz i k : Nat) (hc : cs.length = sz) (hl : i * sz + sz ≤ cur.length) : seg (cur.take (i * sz) ++ cs ++ cur.drop (i * sz + cs.length)) sz k = if k = i then cs else seg cur sz k := by
  apply List.ext_getElem?
  intro t
  by_cases ht : t < sz
  · rw [seg_get _ _ _ _ ht]
    have hlt : (cur.take (i * sz)).length = i * sz := by rw [List.length_take]; omega
    rcases Nat.lt_trichotomy k i with hk | hk | hk
    · have h1 := Nat.mul_le_mul_right sz (show k + 1 ≤ i from hk)
      rw [Nat.add_mul, Nat.one_mul] at h1
      rw [if_neg (by omega), seg_get _ _ _ _ ht, List.append_assoc, List.getElem?_append_left (by omega), List.getElem?_take, if_pos (by omega)]
    · subst hk
      rw [if_pos rfl, List.append_assoc, List.getElem?_append_right (by omega), hlt, Nat.add_sub_cancel_left, List.getElem?_append_left (by omega)]
    · have h1 := Nat.mul_le_mul_right sz (show i + 1 ≤ k from hk)
      rw [Nat.add_mul, Nat.one_mul] at h1
      rw [if_neg (by omega), seg_get _ _ _ _ ht, List.getElem?_append_right (by rw [List.length_append, hlt]; omega), List.getElem?_drop, List.length_append, hlt]
      congr 1
      omega
  · have h1 : ∀ c : List Value, (seg c sz k)[t]? = none := fun c => by unfold seg; rw [List.getElem?_take, if_neg ht]
    rw [h1]
    split
    · exact (List.getElem?_eq_none (by omega)).symm
    · exact (h1 _).symm
theorem store_run {P : Program} {o : Oper} {a : Act} {W : World} (t : TypeId) (p x : Operand) (ho : o.op = .store t p x) {g off : Nat} {cs : Array Value} {e : TypeId} (u : Value) (seg : List Value) (haddr : a.eval p = .pointer (some ⟨g, off, none⟩)) (hx : a.eval x = u) (hu : u.cells.toList = seg) (ht : (P.info? t).map (·.size) = some seg.length) (h1 : ∀ q ∈ seg, q.oneCell' = true)
    (hh : W.heap[g]? = some (.cells cs e (0, 0))) (hsz : off + seg.length ≤ cs.size) : (execOp a.eval o).run P W = .ok .skip (W.setCells g off seg) := by
  have hrun := run_store_run (P := P) t u seg hh hu ht hsz h1
  unfold execOp
  simp only [ho, haddr, hx, Sem.run_bind, Sem.run_pure, Result.andThen_ok, hrun]
theorem cell_seg {W : World} {g t sz k m : Nat} {cur : Array Value} {c : List Value} {u : Value} (hh : W.heap[g]? = some (.cells cur t (0, 0))) (hs : seg cur.toList sz k = c) (hm : m < sz) (hu : c[m]? = some u) : W.cell? ⟨g, k * sz + m, none⟩ = some u := by
  rw [blk_cell hh, ← Array.getElem?_toList, ← seg_get _ _ _ _ hm, hs]
  exact hu
set_option maxHeartbeats 8000000 in
set_option maxRecDepth 100000 in
theorem reverse_calls (g n cap : Nat) (cur0 : Array Value) (w : World) (hh : w.heap[g]? = some (.cells cur0 49 (0, 0))) (hs : cur0.size = cap * 3) (hnc : n ≤ cap) (hn : n ≤ 1000000) (hshape : ∀ k, k < n → ∃ s A m c t, seg cur0.toList 3 k = [.string s, .slice A m c, .string t]) :
    Calls Tryd.prog 58 #[.slice (some ⟨g, 0, none⟩) n cap] w fun e w' => (∃ v, e = .returned v) ∧ ∃ cur', w'.heap[g]? = some (.cells cur' 49 (0, 0)) ∧ cur'.size = cur0.size ∧ (∀ k, k < n → seg cur'.toList 3 k = seg cur0.toList 3 (n - 1 - k)) ∧ w.grownBy w' (some g) := by
  have hu49 := Tryd.underlying49
  have mixed : Tryd.prog.follows Departure.mixedOrders = true := by kernel_rfl
  have HH := Aside0.mk hh
  have HS := Aside0.mk hs
  have HNC := Aside0.mk hnc
  have HN := Aside0.mk hn
  have HSH := Aside0.mk hshape
  have hw0 : wrap64 ((n : Int) - 1) = (n : Int) - 1 := by unfold wrap64; omega
  have HW0 := Aside0.mk hw0
  clear hh hs hnc hn hshape hw0
  go_enter Tryd.func58, Tryd.ntmps58
  go_wp2
  rw [HW0.out]
  go_loopg [2, 3] n (fun kq v2 v3 w' => ∃ i : Nat, v2 = .int .i64 i ∧ v3 = .int .i64 ((n : Int) - 1 - i) ∧ Aside0 (i + kq = n) ∧ Aside0 (∃ cur', w'.heap[g]? = some (.cells cur' 49 (0, 0)) ∧ cur'.size = cur0.size ∧ (∀ k, k < n → seg cur'.toList 3 k = if k < i ∨ n - 1 - k < i then seg cur0.toList 3 (n - 1 - k) else seg cur0.toList 3 k) ∧ w.grownBy w' (some g)))
  case atStart => exact ⟨0, rfl, by simp, ⟨by omega⟩, ⟨cur0, HH.out, rfl, fun k _ => by rw [if_neg (by omega)], World.grownBy.refl _ _⟩⟩
  case round =>
    obtain ⟨i, rfl, rfl, HI, HP⟩ := hrel
    by_cases hlt : (i : Int) < (n : Int) - 1 - i
    · have dl : decide ((i : Int) < (n : Int) - 1 - i) = true := decide_eq_true hlt
      obtain ⟨kq, rfl⟩ : ∃ k, gk = k + 1 := ⟨gk - 1, by have := HI.out; omega⟩
      have hi := HI.out
      obtain ⟨j, hj⟩ : ∃ j : Nat, j = n - 1 - i := ⟨_, rfl⟩
      have hje : (n : Int) - 1 - (i : Int) = (j : Int) := by omega
      rw [hje]
      rw [hje] at dl hlt
      have HJ := Aside0.mk hj
      have hij : i < j := by omega
      have hjn : j < n := by omega
      have HIJ := Aside0.mk (⟨hij, hjn⟩ : i < j ∧ j < n)
      obtain ⟨cur', h1, h2, h3, h4⟩ := HP.out
      obtain ⟨s1, B1, m1, b1, t1, e1⟩ := HSH.out i (by omega)
      obtain ⟨s2, B2, m2, b2, t2, e2⟩ := HSH.out j (by omega)
      have f1 : seg cur'.toList 3 i = [.string s1, .slice B1 m1 b1, .string t1] := by rw [h3 i (by omega), if_neg (by omega), e1]
      have f2 : seg cur'.toList 3 j = [.string s2, .slice B2 m2 b2, .string t2] := by rw [h3 j (by omega), if_neg (by omega), e2]
      have i0 : wr.cell? ⟨g, i * 3, none⟩ = some (.string s1) := cell_seg (m := 0) h1 f1 (by decide) rfl
      have i1 : wr.cell? ⟨g, i * 3 + 1, none⟩ = some (.slice B1 m1 b1) := cell_seg (m := 1) h1 f1 (by decide) rfl
      have i2 : wr.cell? ⟨g, i * 3 + 2, none⟩ = some (.string t1) := cell_seg (m := 2) h1 f1 (by decide) rfl
      have j0 : wr.cell? ⟨g, j * 3, none⟩ = some (.string s2) := cell_seg (m := 0) h1 f2 (by decide) rfl
      have j1 : wr.cell? ⟨g, j * 3 + 1, none⟩ = some (.slice B2 m2 b2) := cell_seg (m := 1) h1 f2 (by decide) rfl
      have j2 : wr.cell? ⟨g, j * 3 + 2, none⟩ = some (.string t2) := cell_seg (m := 2) h1 f2 (by decide) rfl
      have H1 := Aside0.mk h1
      have H2 := Aside0.mk h2
      have H3 := Aside0.mk h3
      have H4 := Aside0.mk h4
      have E1 := Aside0.mk e1
      have E2 := Aside0.mk e2
      have p1 : (0 ≤ (i : Int)) = True := eq_true (by omega)
      have p2 : ((i : Int) < (n : Int)) = True := eq_true (by omega)
      have p3 : (0 ≤ (j : Int)) = True := eq_true (by omega)
      have p4 : ((j : Int) < (n : Int)) = True := eq_true (by omega)
      have p5 : decide (i < j) = true := decide_eq_true hij
      have p6 : (i < n) = True := eq_true (by omega)
      have p7 : (j < n) = True := eq_true hjn
      have hi1 : wrap64 ((i : Int) + 1) = ((i + 1 : Nat) : Int) := by unfold wrap64; have := HN.out; omega
      have hj1 : wrap64 ((j : Int) - 1) = (n : Int) - 1 - ((i + 1 : Nat) : Int) := by unfold wrap64; have := HN.out; omega
      have HI1 := Aside0.mk hi1
      have HJ1 := Aside0.mk hj1
      clear h1 h2 h3 h4 e1 e2 f1 f2 hi hj hje hij hjn hlt hi1 hj1
      go_wp2
      refine start_ (n := 16) (S := fun w' => (w'.cell? ⟨g, j * 3, none⟩ = some (.string s2) ∧ w'.cell? ⟨g, j * 3 + 1, none⟩ = some (.slice B2 m2 b2) ∧ w'.cell? ⟨g, j * 3 + 2, none⟩ = some (.string t2)) ∧ (w'.cell? ⟨g, i * 3, none⟩ = some (.string s1) ∧ w'.cell? ⟨g, i * 3 + 1, none⟩ = some (.slice B1 m1 b1) ∧ w'.cell? ⟨g, i * 3 + 2, none⟩ = some (.string t1))) (ds := [13, 15]) #[false, false, false, false, false, false, false, false, false, false, false, false, false, false, false, false] (by kernel_rfl) rfl rfl ⟨⟨j0, j1, j2⟩, ⟨i0, i1, i2⟩⟩ (fun hHeld => ?_)
      refine pure_ (i := 0) (N := some 14) (v := ?_) (a' := ?_) #[true, false, false, false, false, false, false, false, false, false, false, false, false, false, false, false] rfl rfl (by kernel_rfl) (fun _ _ _ h => h) (Or.inl ⟨by rfl, ?_⟩) ?_ ?_
      rotate_left
      · intro w'
        go_simp
        with_reducible rfl
      rotate_left
      · simp only [Act.put, List.setIfInBounds_toArray, List.set_cons_zero, List.set_cons_succ]
        rfl
      refine pure_ (i := 1) (N := some 15) (v := ?_) (a' := ?_) #[true, true, false, false, false, false, false, false, false, false, false, false, false, false, false, false] rfl rfl (by kernel_rfl) (fun _ _ _ h => h) (Or.inl ⟨by rfl, ?_⟩) ?_ ?_
      rotate_left
      · intro w'
        go_simp
        with_reducible rfl
      rotate_left
      · simp only [Act.put, List.setIfInBounds_toArray, List.set_cons_zero, List.set_cons_succ]
        rfl
      refine pure_ (i := 2) (N := some 16) (v := ?_) (a' := ?_) #[true, true, true, false, false, false, false, false, false, false, false, false, false, false, false, false] rfl rfl (by kernel_rfl) (fun _ _ _ h => h) (Or.inl ⟨by rfl, ?_⟩) ?_ ?_
      rotate_left
      · intro w'
        go_simp
        with_reducible rfl
      rotate_left
      · simp only [Act.put, List.setIfInBounds_toArray, List.set_cons_zero, List.set_cons_succ]
        rfl
      refine pure_ (i := 3) (N := some 17) (v := ?_) (a' := ?_) #[true, true, true, true, false, false, false, false, false, false, false, false, false, false, false, false] rfl rfl (by kernel_rfl) (fun _ _ _ h => h) (Or.inl ⟨by rfl, ?_⟩) ?_ ?_
      rotate_left
      · intro w'
        go_simp
        with_reducible rfl
      rotate_left
      · simp only [Act.put, List.setIfInBounds_toArray, List.set_cons_zero, List.set_cons_succ]
        rfl
      refine pure_ (i := 4) (N := some 18) (v := ?_) (a' := ?_) #[true, true, true, true, true, false, false, false, false, false, false, false, false, false, false, false] rfl rfl (by kernel_rfl) (fun _ _ _ h => h) (Or.inl ⟨by rfl, ?_⟩) ?_ ?_
      rotate_left
      · intro w'
        go_simp
        with_reducible rfl
      rotate_left
      · simp only [Act.put, List.setIfInBounds_toArray, List.set_cons_zero, List.set_cons_succ]
        rfl
      refine pure_ (i := 5) (N := some 19) (v := ?_) (a' := ?_) #[true, true, true, true, true, true, false, false, false, false, false, false, false, false, false, false] rfl rfl (by kernel_rfl) (fun _ _ _ h => h) (Or.inl ⟨by rfl, ?_⟩) ?_ ?_
      rotate_left
      · intro w'
        go_simp
        with_reducible rfl
      rotate_left
      · simp only [Act.put, List.setIfInBounds_toArray, List.set_cons_zero, List.set_cons_succ]
        rfl
      refine pure_ (i := 6) (N := some 20) (v := ?_) (a' := ?_) #[true, true, true, true, true, true, true, false, false, false, false, false, false, false, false, false] rfl rfl (by kernel_rfl) (fun _ _ _ h => h) (Or.inl ⟨by rfl, ?_⟩) ?_ ?_
      rotate_left
      · intro w'
        go_simp
        with_reducible rfl
      rotate_left
      · simp only [Act.put, List.setIfInBounds_toArray, List.set_cons_zero, List.set_cons_succ]
        rfl
      refine pure_ (i := 8) (N := some 22) (v := ?_) (a' := ?_) #[true, true, true, true, true, true, true, false, true, false, false, false, false, false, false, false] rfl rfl (by kernel_rfl) (fun _ _ _ h => h) (Or.inl ⟨by rfl, ?_⟩) ?_ ?_
      rotate_left
      · intro w'
        go_simp
        with_reducible rfl
      rotate_left
      · simp only [Act.put, List.setIfInBounds_toArray, List.set_cons_zero, List.set_cons_succ]
        rfl
      refine pure_ (i := 9) (N := some 23) (v := ?_) (a' := ?_) #[true, true, true, true, true, true, true, false, true, true, false, false, false, false, false, false] rfl rfl (by kernel_rfl) (fun _ _ _ h => h) (Or.inl ⟨by rfl, ?_⟩) ?_ ?_
      rotate_left
      · intro w'
        go_simp
        with_reducible rfl
      rotate_left
      · simp only [Act.put, List.setIfInBounds_toArray, List.set_cons_zero, List.set_cons_succ]
        rfl
      refine pure_ (i := 10) (N := some 24) (v := ?_) (a' := ?_) #[true, true, true, true, true, true, true, false, true, true, true, false, false, false, false, false] rfl rfl (by kernel_rfl) (fun _ _ _ h => h) (Or.inl ⟨by rfl, ?_⟩) ?_ ?_
      rotate_left
      · intro w'
        go_simp
        with_reducible rfl
      rotate_left
      · simp only [Act.put, List.setIfInBounds_toArray, List.set_cons_zero, List.set_cons_succ]
        rfl
      refine take_ (i := 7) (N := some 21) (v := (.agg #[.string s2, .slice B2 m2 b2, .string t2])) (a' := ?_) #[true, true, true, true, true, true, true, true, true, true, true, false, false, false, false, false] rfl rfl (by kernel_rfl) (fun _ _ _ h => h) (Or.inl ⟨by rfl, ?_⟩) hHeld ?_ ?_
      rotate_left
      rotate_left
      · simp only [Act.put, List.setIfInBounds_toArray, List.set_cons_zero, List.set_cons_succ]
        rfl
      rotate_left
      · rintro w' ⟨⟨y0, y1, y2⟩, ⟨x0, x1, x2⟩⟩
        go_simp
      refine take_ (i := 11) (N := some 25) (v := (.agg #[.string s1, .slice B1 m1 b1, .string t1])) (a' := ?_) #[true, true, true, true, true, true, true, true, true, true, true, true, false, false, false, false] rfl rfl (by kernel_rfl) (fun _ _ _ h => h) (Or.inl ⟨by rfl, ?_⟩) hHeld ?_ ?_
      rotate_left
      rotate_left
      · simp only [Act.put, List.setIfInBounds_toArray, List.set_cons_zero, List.set_cons_succ]
        rfl
      rotate_left
      · rintro w' ⟨⟨y0, y1, y2⟩, ⟨x0, x1, x2⟩⟩
        go_simp
      refine pure_ (i := 12) (N := some 26) (v := ?_) (a' := ?_) #[true, true, true, true, true, true, true, true, true, true, true, true, true, false, false, false] rfl rfl (by kernel_rfl) (fun _ _ _ h => h) (Or.inl ⟨by rfl, ?_⟩) ?_ ?_
      rotate_left
      · intro w'
        go_simp
        with_reducible rfl
      rotate_left
      · simp only [Act.put, List.setIfInBounds_toArray, List.set_cons_zero, List.set_cons_succ]
        rfl
      have hsz : j * 3 + 3 ≤ cur'.size := by have h2 := H2.out; have hs := HS.out; have hnc := HNC.out; have hij := HIJ.out; omega
      refine last_ (i := 13) (N := none) #[true, true, true, true, true, true, true, true, true, true, true, true, true, true, false, false] rfl rfl (by kernel_rfl) (by decide) (fun K hK => ?_)
      refine skip_ (w1 := wr.drew.setCells g (i * 3) [.string s2, .slice B2 m2 b2, .string t2]) (by rfl) rfl (store_run 49 (.tmp 26) (.tmp 21) rfl (.agg #[.string s2, .slice B2 m2 b2, .string t2]) [.string s2, .slice B2 m2 b2, .string t2] (by rfl) (by rfl) rfl info49s (by simp [Value.oneCell']) (show wr.drew.heap[g]? = _ from H1.out) (by show i * 3 + 3 ≤ _; have h2 := H2.out; have hs := HS.out; have hnc := HNC.out; have hij := HIJ.out; omega)) ?_
      refine hK.out _ _ ?_
      obtain ⟨cur5, hh5, hs5, ht5⟩ := setCells_row [.string s2, .slice B2 m2 b2, .string t2] (i * 3) wr.drew cur' H1.out (by show i * 3 + 3 ≤ _; have hij := HIJ.out; omega)
      have g5 : w.grownBy (wr.drew.setCells g (i * 3) [.string s2, .slice B2 m2 b2, .string t2]) (some g) := (H4.out.trans (grown_of_below (below_drew (Below.refl _ _)) _)).trans ⟨(setCells_same g _ _ _).1, (setCells_same g _ _ _).2.1, (setCells_same g _ _ _).2.2.1, Nat.le_of_eq (setCells_same g _ _ _).2.2.2.symm, fun k _ hk => setCells_far _ _ k (fun e => hk (by rw [e]))⟩
      generalize wr.drew.setCells g (i * 3) [.string s2, .slice B2 m2 b2, .string t2] = w5 at hh5 g5 ⊢
      clear hK K
      refine pure_ (i := 14) (N := some 27) (v := ?_) (a' := ?_) #[true, true, true, true, true, true, true, true, true, true, true, true, true, true, true, false] rfl rfl (by kernel_rfl) (fun _ _ _ h => h) (Or.inl ⟨by rfl, ?_⟩) ?_ ?_
      rotate_left
      · intro w'
        go_simp
        with_reducible rfl
      rotate_left
      · simp only [Act.put, List.setIfInBounds_toArray, List.set_cons_zero, List.set_cons_succ]
        rfl
      refine last_ (i := 15) (N := none) #[true, true, true, true, true, true, true, true, true, true, true, true, true, true, true, true] rfl rfl (by kernel_rfl) (by decide) (fun K hK => ?_)
      refine skip_ (w1 := w5.setCells g (j * 3) [.string s1, .slice B1 m1 b1, .string t1]) (by rfl) rfl (store_run 49 (.tmp 27) (.tmp 25) rfl (.agg #[.string s1, .slice B1 m1 b1, .string t1]) [.string s1, .slice B1 m1 b1, .string t1] (by rfl) (by rfl) rfl info49s (by simp [Value.oneCell']) hh5 (by show j * 3 + 3 ≤ _; have h2 := H2.out; have hs := HS.out; have hnc := HNC.out; have hij := HIJ.out; omega)) ?_
      refine hK.out _ _ ?_
      obtain ⟨cur6, hh6, hs6, ht6⟩ := setCells_row [.string s1, .slice B1 m1 b1, .string t1] (j * 3) w5 cur5 hh5 (by show j * 3 + 3 ≤ _; omega)
      have g6 : w.grownBy (w5.setCells g (j * 3) [.string s1, .slice B1 m1 b1, .string t1]) (some g) := g5.trans ⟨(setCells_same g _ _ _).1, (setCells_same g _ _ _).2.1, (setCells_same g _ _ _).2.2.1, Nat.le_of_eq (setCells_same g _ _ _).2.2.2.symm, fun k _ hk => setCells_far _ _ k (fun e => hk (by rw [e]))⟩
      generalize w5.setCells g (j * 3) [.string s1, .slice B1 m1 b1, .string t1] = w6 at hh6 g6 ⊢
      clear hK K
      refine done_ (n := 0) (by kernel_rfl) ?_
      go_wp2
      rw [HI1.out, HJ1.out]
      go_roundg kq
      case measure => omega
      case rel =>
        have hi := HI.out
        have hij := HIJ.out
        have hj := HJ.out
        refine ⟨i + 1, rfl, rfl, ⟨by omega⟩, ⟨cur6, hh6, by have := H2.out; omega, fun k hk => ?_, g6⟩⟩
        have a1 := seg_row cur5.toList [.string s1, .slice B1 m1 b1, .string t1] 3 j k rfl (by rw [Array.length_toList]; omega)
        have a2 := seg_row cur'.toList [.string s2, .slice B2 m2 b2, .string t2] 3 i k rfl (by rw [Array.length_toList]; omega)
        rw [← ht6] at a1
        rw [← ht5] at a2
        rw [a1, a2, H3.out k hk]
        by_cases hkj : k = j
        · rw [if_pos hkj, if_pos (by omega), show n - 1 - k = i by omega, E1.out]
        · rw [if_neg hkj]
          by_cases hki : k = i
          · rw [if_pos hki, if_pos (by omega), show n - 1 - k = j by omega, E2.out]
          · rw [if_neg hki]
            by_cases hc : k < i ∨ n - 1 - k < i
            · rw [if_pos hc, if_pos (by omega)]
            · rw [if_neg hc, if_neg (by omega)]
    · have dl : decide ((i : Int) < (n : Int) - 1 - i) = false := decide_eq_false hlt
      obtain ⟨cur', h1, h2, h3, h4⟩ := HP.out
      go_wp2
      go_end0
      refine ⟨⟨_, rfl⟩, cur', h1, h2, fun k hk => ?_, h4⟩
      rw [h3 k hk]
      split
      · rfl
      · rw [show n - 1 - k = k by omega]
end Go.Proofs.YtnalcjgefbelnaaDoor.Q
end
section
namespace Go.Proofs.YtnalcjgefbelnaaDoor.Q
open Go.RowKit Go.Proofs.YtnalcjgefbelnaaDoorW.PrintWords Go.Proofs.YtnalcjgefbelnaaDoorW.PrintLast Go.Proofs.YtnalcjgefbelnaaDoorW.PrintMore
set_option linter.unusedVariables false
set_option linter.unusedSimpArgs false

attribute [local go_sem] max2_int min2_int max_two min_two max_three min_three max_four min_four
/-! ### tinderref08_find: function 46 -/
def tinderref08_find.l0 : Nat → List (S53) → ByteArray → Int → Option (Int)
  | 0, _, _, _ => none
  | k + 1, x0, x1, x5 => if x5 < (x0.length : Int) then (if 0 ≤ x5 then (if ((rd_T53 x0 x5).f0).toList = x1.toList then (some x5) else (tinderref08_find.l0 k x0 x1 (wrap64 (x5 + 1)))) else (none)) else (some (-1))
def tinderref08_find.f (k : Nat) (l0 : List (S53)) (a1 : ByteArray) : Option (Int) := tinderref08_find.l0 k l0 a1 0

end Go.Proofs.YtnalcjgefbelnaaDoor.Q
end
section
namespace Go.Proofs.YtnalcjgefbelnaaDoor.Q
open Go.RowKit Go.Proofs.YtnalcjgefbelnaaDoorW.PrintWords Go.Proofs.YtnalcjgefbelnaaDoorW.PrintLast Go.Proofs.YtnalcjgefbelnaaDoorW.PrintMore
set_option linter.unusedVariables false
set_option linter.unusedSimpArgs false

attribute [local go_sem] max2_int min2_int max_two min_two max_three min_three max_four min_four
/-! ### tinderref03_Same: function 26 -/
def tinderref03_Same.l0 : Nat → List Int → List Int → Int → Option (Bool)
  | 0, _, _, _ => none
  | k + 1, x0, x1, x5 => if x5 < (x0.length : Int) then (if 0 ≤ x5 then (if x5 < (x1.length : Int) then (if (rd x0 x5) = (rd x1 x5) then (tinderref03_Same.l0 k x0 x1 (wrap64 (x5 + 1))) else (some false)) else (none)) else (none)) else (some true)
def tinderref03_Same.f (k : Nat) (l0 : List Int) (l1 : List Int) : Option (Bool) := if (l0.length : Int) = (l1.length : Int) then (tinderref03_Same.l0 k l0 l1 0) else (some false)
set_option maxHeartbeats 8000000 in
set_option maxRecDepth 100000 in
theorem tinderref03_Same.calls (k : Nat) (A0 : Option Addr) (c0 : Nat) (l0 : List Int) (A1 : Option Addr) (c1 : Nat) (l1 : List Int) (r : Bool) (w : World) (hr0 : Kd.C (Kd.int .u32) w A0 l0.length l0) (hc0 : l0.length ≤ c0) (hr1 : Kd.C (Kd.int .u32) w A1 l1.length l1) (hc1 : l1.length ≤ c1) (h : tinderref03_Same.f k l0 l1 = some r) :
    Calls Tryd.prog 26 #[.slice A0 l0.length c0, .slice A1 l1.length c1] w fun e w' => e = .returned (.bool r) ∧ Drawn0 w w' := by
  have HR0 := Aside0.mk hr0
  have HC0 := Aside0.mk hc0
  clear hr0 hc0
  have HR1 := Aside0.mk hr1
  have HC1 := Aside0.mk hc1
  clear hr1 hc1
  have H : (if (l0.length : Int) = (l1.length : Int) then (tinderref03_Same.l0 k l0 l1 0) else (some false)) = some r := h
  clear h
  by_cases c3 : (l0.length : Int) = (l1.length : Int)
  · rw [if_pos c3] at H
    have c3b0 : ((l0.length : Int) == (l1.length : Int)) = true := beq_iff_eq.mpr c3
    have c3b1 : ((l0.length : Int) != (l1.length : Int)) = false := bne_eq_false_iff_eq.mpr c3
    have c3b2 : (l0.length == l1.length) = true := by first | simpa using c3 | (simp at c3 ⊢; omega)
    clear c3
    have H' := Aside0.mk H
    clear H
    go_enter Tryd.func26, Tryd.ntmps26
    go_wp2
    repeat (go_quiet (fail); try go_wp2)
    go_loopg [5] k (fun kq v5 w' => ∃ (x5_1 : Int), v5 = .int .i64 x5_1 ∧ Aside0 (tinderref03_Same.l0 kq l0 l1 x5_1 = some r) ∧ Aside0 (kq ≤ k) ∧ Drawn0 w w')
    case atStart => exact ⟨(0), (by first | rfl | (simp; done) | (simp [*]; done)), H', ⟨Nat.le_refl _⟩, by repeat (first | exact Drawn0.refl _ | apply Drawn0.step)⟩
    case round =>
      clear H'
      try clear c1
      try clear c2
      try clear p2
      try clear c3
      try clear c3b0
      try clear c3b1
      try clear c3b2
      obtain ⟨x5_1, rfl, HA, HK1, ⟨m1, rfl⟩⟩ := hrel
      cases gk with
      | zero => exact absurd HA.out (by simp [tinderref03_Same.l0])
      | succ k1 =>
        have H := HA.out
        clear HA
        simp only [tinderref03_Same.l0] at H
        by_cases c4 : x5_1 < (l0.length : Int)
        · rw [if_pos c4] at H
          have c4b0 : decide (x5_1 < (l0.length : Int)) = true := decide_eq_true c4
          clear c4
          by_cases c5 : 0 ≤ x5_1
          · rw [if_pos c5] at H
            have c5b0 : decide (0 ≤ x5_1) = true := decide_eq_true c5
            clear c5
            by_cases c6 : x5_1 < (l1.length : Int)
            · rw [if_pos c6] at H
              have c6b0 : decide (x5_1 < (l1.length : Int)) = true := decide_eq_true c6
              clear c6
              by_cases c7 : (rd l0 x5_1) = (rd l1 x5_1)
              · rw [if_pos c7] at H
                have c7b0 : ((rd l0 x5_1) == (rd l1 x5_1)) = true := beq_iff_eq.mpr c7
                have c7b1 : ((rd l0 x5_1) != (rd l1 x5_1)) = false := bne_eq_false_iff_eq.mpr c7
                clear c7
                have H' := Aside0.mk H
                clear H
                have p27001 : 0 ≤ (x5_1 : Int) := of_decide_eq_true (by first | (with_reducible assumption) | assumption)
                have q27001 : x5_1 < (l0.length : Int) := of_decide_eq_true (by first | (with_reducible assumption) | assumption)
                obtain ⟨ad27001, e27001, hx27001_0⟩ := Kd.at_int HR0.out x5_1 p27001 q27001
                cases e27001
                replace p27001 := eq_true p27001
                replace q27001 := eq_true q27001
                have p27002 : 0 ≤ (x5_1 : Int) := of_decide_eq_true (by first | (with_reducible assumption) | assumption)
                have q27002 : x5_1 < (l1.length : Int) := of_decide_eq_true (by first | (with_reducible assumption) | assumption)
                obtain ⟨ad27002, e27002, hx27002_0⟩ := Kd.at_int HR1.out x5_1 p27002 q27002
                cases e27002
                replace p27002 := eq_true p27002
                replace q27002 := eq_true q27002
                go_wp2
                repeat (go_quiet (fail); try go_wp2)
                go_roundg k1
                case measure => have := HK1.out; omega
                case rel => exact ⟨(wrap64 (x5_1 + 1)), (by first | rfl | (simp; done) | (simp [*]; done)), H', ⟨by have := HK1.out; omega⟩, by repeat (first | exact Drawn0.refl _ | apply Drawn0.step)⟩
              · rw [if_neg c7] at H
                have c7b0 : ((rd l0 x5_1) == (rd l1 x5_1)) = false := beq_eq_false_iff_ne.mpr c7
                have c7b1 : ((rd l0 x5_1) != (rd l1 x5_1)) = true := bne_iff_ne.mpr c7
                obtain rfl := Option.some.inj H
                have p27001 : 0 ≤ (x5_1 : Int) := of_decide_eq_true (by first | (with_reducible assumption) | assumption)
                have q27001 : x5_1 < (l0.length : Int) := of_decide_eq_true (by first | (with_reducible assumption) | assumption)
                obtain ⟨ad27001, e27001, hx27001_0⟩ := Kd.at_int HR0.out x5_1 p27001 q27001
                cases e27001
                replace p27001 := eq_true p27001
                replace q27001 := eq_true q27001
                have p27002 : 0 ≤ (x5_1 : Int) := of_decide_eq_true (by first | (with_reducible assumption) | assumption)
                have q27002 : x5_1 < (l1.length : Int) := of_decide_eq_true (by first | (with_reducible assumption) | assumption)
                obtain ⟨ad27002, e27002, hx27002_0⟩ := Kd.at_int HR1.out x5_1 p27002 q27002
                cases e27002
                replace p27002 := eq_true p27002
                replace q27002 := eq_true q27002
                go_wp2
                repeat (go_quiet (fail); try go_wp2)
                go_ret
                exact ⟨by first | rfl | (simp; done) | (simp [*]; done), by repeat (first | exact Drawn0.refl _ | apply Drawn0.step)⟩
            · rw [if_neg c6] at H
              exact absurd H (by simp)
          · rw [if_neg c5] at H
            exact absurd H (by simp)
        · rw [if_neg c4] at H
          have c4b0 : decide (x5_1 < (l0.length : Int)) = false := decide_eq_false c4
          clear c4
          obtain rfl := Option.some.inj H
          go_wp2
          repeat (go_quiet (fail); try go_wp2)
          go_ret
          exact ⟨by first | rfl | (simp; done) | (simp [*]; done), by repeat (first | exact Drawn0.refl _ | apply Drawn0.step)⟩
  · rw [if_neg c3] at H
    have c3b0 : ((l0.length : Int) == (l1.length : Int)) = false := beq_eq_false_iff_ne.mpr c3
    have c3b1 : ((l0.length : Int) != (l1.length : Int)) = true := bne_iff_ne.mpr c3
    have c3b2 : (l0.length == l1.length) = false := by first | simpa using c3 | (simp at c3 ⊢; omega)
    obtain rfl := Option.some.inj H
    go_enter Tryd.func26, Tryd.ntmps26
    go_wp2
    repeat (go_quiet (fail); try go_wp2)
    go_ret
    exact ⟨by first | rfl | (simp; done) | (simp [*]; done), by repeat (first | exact Drawn0.refl _ | apply Drawn0.step)⟩

end Go.Proofs.YtnalcjgefbelnaaDoor.Q
end
section
namespace Go.Proofs.YtnalcjgefbelnaaDoor.Q
open Go.RowKit Go.Proofs.YtnalcjgefbelnaaDoorW.PrintWords Go.Proofs.YtnalcjgefbelnaaDoorW.PrintLast Go.Proofs.YtnalcjgefbelnaaDoorW.PrintMore
set_option linter.unusedVariables false
set_option linter.unusedSimpArgs false

attribute [local go_sem] max2_int min2_int max_two min_two max_three min_three max_four min_four
/-! ### tinderref08_twin: function 45 -/
def tinderref08_twin.l0 : Nat → List (S44) → Int → Int → ByteArray → List Int → Int → Option (Bool)
  | 0, _, _, _, _, _, _ => none
  | k + 1, x0, x1, x2, x3, x4, x11 => if x11 < x1 then (if 0 ≤ x11 then (if x11 < (x0.length : Int) then (if ((rd_T44 x0 x11).f2) = x2 then (if ((rd_T44 x0 x11).f0).toList = x3.toList then ((tinderref03_Same.f k ((rd_T44 x0 x11).f1) x4).bind fun t46004 => (if t46004 = true then (some true) else (tinderref08_twin.l0 k x0 x1 x2 x3 x4 (wrap64 (x11 + 1))))) else (tinderref08_twin.l0 k x0 x1 x2 x3 x4 (wrap64 (x11 + 1)))) else (tinderref08_twin.l0 k x0 x1 x2 x3 x4 (wrap64 (x11 + 1)))) else (none)) else (none)) else (some false)
def tinderref08_twin.f (k : Nat) (l0 : List (S44)) (a1 : Int) (a2 : Int) (a3 : ByteArray) (l4 : List Int) : Option (Bool) := tinderref08_twin.l0 k l0 a1 a2 a3 l4 0

end Go.Proofs.YtnalcjgefbelnaaDoor.Q
end
section
namespace Go.Proofs.YtnalcjgefbelnaaDoor.Q
open Go.RowKit Go.Proofs.YtnalcjgefbelnaaDoorW.PrintWords Go.Proofs.YtnalcjgefbelnaaDoorW.PrintLast Go.Proofs.YtnalcjgefbelnaaDoorW.PrintMore
set_option linter.unusedVariables false
set_option linter.unusedSimpArgs false

attribute [local go_sem] max2_int min2_int max_two min_two max_three min_three max_four min_four
/-! ### tinderref08_Formed: function 13 -/
mutual
def tinderref08_Formed.j0 : Nat → List (S44) → Bool → Option (Bool)
  | 0, _, _ => none
  | k + 1, x0, x35 => if x35 = true then (some false) else (tinderref08_Formed.l0 k x0 0)
def tinderref08_Formed.l0 : Nat → List (S44) → Int → Option (Bool)
  | 0, _, _ => none
  | k + 1, x0, x3 => if x3 < (x0.length : Int) then (if 0 ≤ x3 then (if x3 > 0 then ((tinderref05_Named.f k ((rd_T44 x0 x3).f0)).bind fun t14006 => (if t14006 = true then (if (((rd_T44 x0 x3).f1).length : Int) > 4 then (tinderref08_Formed.j2 k x0 x3 true ((rd_T44 x0 x3).f0) ((rd_T44 x0 x3).f1) ((rd_T44 x0 x3).f2) ((rd_T44 x0 x3).f3) ((rd_T44 x0 x3).f4)) else (if ((rd_T44 x0 x3).f2) < 0 then (tinderref08_Formed.j2 k x0 x3 true ((rd_T44 x0 x3).f0) ((rd_T44 x0 x3).f1) ((rd_T44 x0 x3).f2) ((rd_T44 x0 x3).f3) ((rd_T44 x0 x3).f4)) else (if ((rd_T44 x0 x3).f2) ≥ x3 then (tinderref08_Formed.j2 k x0 x3 true ((rd_T44 x0 x3).f0) ((rd_T44 x0 x3).f1) ((rd_T44 x0 x3).f2) ((rd_T44 x0 x3).f3) ((rd_T44 x0 x3).f4)) else ((tinderref08_twin.f k x0 x3 ((rd_T44 x0 x3).f2) ((rd_T44 x0 x3).f0) ((rd_T44 x0 x3).f1)).bind fun t14007 => (tinderref08_Formed.j2 k x0 x3 t14007 ((rd_T44 x0 x3).f0) ((rd_T44 x0 x3).f1) ((rd_T44 x0 x3).f2) ((rd_T44 x0 x3).f3) ((rd_T44 x0 x3).f4)))))) else (tinderref08_Formed.j2 k x0 x3 true ((rd_T44 x0 x3).f0) ((rd_T44 x0 x3).f1) ((rd_T44 x0 x3).f2) ((rd_T44 x0 x3).f3) ((rd_T44 x0 x3).f4)))) else (tinderref08_Formed.j2 k x0 x3 false ((rd_T44 x0 x3).f0) ((rd_T44 x0 x3).f1) ((rd_T44 x0 x3).f2) ((rd_T44 x0 x3).f3) ((rd_T44 x0 x3).f4))) else (none)) else (some true)
def tinderref08_Formed.j2 : Nat → List (S44) → Int → Bool → ByteArray → List Int → Int → List (S53) → List Int → Option (Bool)
  | 0, _, _, _, _, _, _, _, _ => none
  | k + 1, x0, x3, x81, x14006000, x14006001, x14006002, x14006003, x14006004 => if x81 = true then (some false) else (if (x14006003.length : Int) > 16 then (tinderref08_Formed.j3 k x0 x3 true x14006000 x14006001 x14006002 x14006003 x14006004) else (tinderref08_Formed.j3 k x0 x3 (decide ((x14006004.length : Int) > 16)) x14006000 x14006001 x14006002 x14006003 x14006004))
def tinderref08_Formed.j3 : Nat → List (S44) → Int → Bool → ByteArray → List Int → Int → List (S53) → List Int → Option (Bool)
  | 0, _, _, _, _, _, _, _, _ => none
  | k + 1, x0, x3, x91, x14006000, x14006001, x14006002, x14006003, x14006004 => if x91 = true then (some false) else (tinderref08_Formed.l1 k x0 x3 0 x14006000 x14006001 x14006002 x14006003 x14006004)
def tinderref08_Formed.l1 : Nat → List (S44) → Int → Int → ByteArray → List Int → Int → List (S53) → List Int → Option (Bool)
  | 0, _, _, _, _, _, _, _, _ => none
  | k + 1, x0, x3, x5, x14006000, x14006001, x14006002, x14006003, x14006004 => if x5 < (x14006003.length : Int) then (if 0 ≤ x5 then ((tinderref05_Named.f k ((rd_T53 x14006003 x5).f0)).bind fun t14009 => (if t14009 = true then (if (((rd_T53 x14006003 x5).f1).length : Int) > 256 then (some false) else (if x5 ≤ (x14006003.length : Int) then ((tinderref08_find.f k (x14006003.take (x5 : Int).toNat) ((rd_T53 x14006003 x5).f0)).bind fun t14016 => (if t14016 ≥ 0 then (some false) else (tinderref08_Formed.l1 k x0 x3 (wrap64 (x5 + 1)) x14006000 x14006001 x14006002 x14006003 x14006004))) else (none))) else (some false))) else (none)) else (tinderref08_Formed.l0 k x0 (wrap64 (x3 + 1)))
end
def tinderref08_Formed.f (k : Nat) (l0 : List (S44)) : Option (Bool) := if (l0.length : Int) < 1 then (tinderref08_Formed.j0 k l0 true) else (if (l0.length : Int) > 32 then (tinderref08_Formed.j0 k l0 true) else (if 0 < (l0.length : Int) then (if ((rd_T44 l0 0).f0).toList = ([] : List UInt8) then (if (((rd_T44 l0 0).f1).length : Int) > 0 then (tinderref08_Formed.j0 k l0 true) else (tinderref08_Formed.j0 k l0 (((rd_T44 l0 0).f2) != (-1)))) else (tinderref08_Formed.j0 k l0 true)) else (none)))
def tinderref08_Formed.T14 : Bool × List (List Nat × List Nat) := (true, [([], []), ([0], [0]), ([], []), ([1, 2], [1, 2]), ([3], [3]), ([4], [4]), ([5], [5]), ([6], [6]), ([7, 6], [7]), ([8], [8]), ([9, 8], [8, 9]), ([8], [8]), ([10, 11, 8], [8, 10, 11]), ([12, 8], [8, 12]), ([13, 8], [8, 13]), ([14, 8], [8, 14]), ([15, 8], [8, 15]), ([8, 16], [8, 16]), ([17, 8], [17]), ([18], [18]), ([19, 18], [18, 19]), ([18], [18]), ([20, 21, 18], [18, 20, 21]), ([18], [18]), ([23, 18], [18, 23]), ([18], [18]), ([24, 25, 18], [18, 24, 25]), ([26, 18], [18, 26]), ([27, 18], [18, 27]), ([22, 28, 18, 18], [18, 22, 28]), ([29, 18], [18, 29]), ([18, 30], [18, 30])])
def tinderref08_Formed.B14 : List Nat := [0, 1, 0, 7, 15, 31, 63, 127, 255, 511, 1023, 511, 4095, 8191, 16383, 32767, 65535, 131071, 262143, 524287, 1048575, 524287, 4194303, 524287, 8912895, 524287, 59244543, 126353407, 260571135, 536870911, 1073741823, 2147483647]

end Go.Proofs.YtnalcjgefbelnaaDoor.Q
end
section
namespace Go.Proofs.YtnalcjgefbelnaaDoor.Q
open Go.RowKit Go.Proofs.YtnalcjgefbelnaaDoorW.PrintWords Go.Proofs.YtnalcjgefbelnaaDoorW.PrintLast Go.Proofs.YtnalcjgefbelnaaDoorW.PrintMore
set_option linter.unusedVariables false
set_option linter.unusedSimpArgs false

attribute [local go_sem] max2_int min2_int max_two min_two max_three min_three max_four min_four
/-! ### tinderref04_Same: function 31 -/
def tinderref04_Same.f (l0 : List Int) (l1 : List Int) : Option (Bool) := some ((strOfNums l0).toList == (strOfNums l1).toList)
set_option maxHeartbeats 8000000 in
set_option maxRecDepth 100000 in
theorem tinderref04_Same.calls (A0 : Option Addr) (c0 : Nat) (l0 : List Int) (A1 : Option Addr) (c1 : Nat) (l1 : List Int) (r : Bool) (w : World) (hr0 : Kd.C (Kd.int .u8) w A0 l0.length l0) (hc0 : l0.length ≤ c0) (hr1 : Kd.C (Kd.int .u8) w A1 l1.length l1) (hc1 : l1.length ≤ c1) (h : tinderref04_Same.f l0 l1 = some r) :
    Calls Tryd.prog 31 #[.slice A0 l0.length c0, .slice A1 l1.length c1] w fun e w' => e = .returned (.bool r) ∧ Drawn0 w w' := by
  have HR0 := Aside0.mk hr0
  have HC0 := Aside0.mk hc0
  clear hr0 hc0
  have HR1 := Aside0.mk hr1
  have HC1 := Aside0.mk hc1
  clear hr1 hc1
  have H : (some ((strOfNums l0).toList == (strOfNums l1).toList)) = some r := h
  clear h
  obtain rfl := Option.some.inj H
  have hcv3 := Kd.C_string (P := Tryd.prog) (A := A0) (c := c0) Tryd.underlying28 Tryd.underlying5 Tryd.underlying9 HR0.out
  have hcv4 := Kd.C_string (P := Tryd.prog) (A := A1) (c := c1) Tryd.underlying28 Tryd.underlying5 Tryd.underlying9 HR1.out
  go_enter Tryd.func31, Tryd.ntmps31
  go_wp2
  go_ret
  exact ⟨by first | rfl | (simp; done) | (simp [*]; done), by repeat (first | exact Drawn0.refl _ | apply Drawn0.step)⟩

end Go.Proofs.YtnalcjgefbelnaaDoor.Q
end
section
namespace Go.Proofs.YtnalcjgefbelnaaDoor.Q
open Go.RowKit Go.Proofs.YtnalcjgefbelnaaDoorW.PrintWords Go.Proofs.YtnalcjgefbelnaaDoorW.PrintLast Go.Proofs.YtnalcjgefbelnaaDoorW.PrintMore
set_option linter.unusedVariables false
set_option linter.unusedSimpArgs false

attribute [local go_sem] max2_int min2_int max_two min_two max_three min_three max_four min_four
/-! ### tinderref08_SameNode: function 39 -/
mutual
def tinderref08_SameNode.j0 : Nat → Bool → ByteArray → List Int → Int → List (S53) → List Int → ByteArray → List Int → Int → List (S53) → List Int → Option (Bool)
  | 0, _, _, _, _, _, _, _, _, _, _, _ => none
  | k + 1, x42, x40002000, x40002001, x40002002, x40002003, x40002004, x40003000, x40003001, x40003002, x40003003, x40003004 => if x42 = true then (some false) else (tinderref08_SameNode.l0 k 0 x40002000 x40002001 x40002002 x40002003 x40002004 x40003000 x40003001 x40003002 x40003003 x40003004)
def tinderref08_SameNode.l0 : Nat → Int → ByteArray → List Int → Int → List (S53) → List Int → ByteArray → List Int → Int → List (S53) → List Int → Option (Bool)
  | 0, _, _, _, _, _, _, _, _, _, _, _ => none
  | k + 1, x5, x40002000, x40002001, x40002002, x40002003, x40002004, x40003000, x40003001, x40003002, x40003003, x40003004 => if x5 < (x40002003.length : Int) then (if 0 ≤ x5 then (if x5 < (x40003003.length : Int) then (if ((rd_T53 x40002003 x5).f0).toList = ((rd_T53 x40003003 x5).f0).toList then ((tinderref04_Same.f ((rd_T53 x40002003 x5).f1) ((rd_T53 x40003003 x5).f1)).bind fun t40009 => (if t40009 = true then (tinderref08_SameNode.l0 k (wrap64 (x5 + 1)) x40002000 x40002001 x40002002 x40002003 x40002004 x40003000 x40003001 x40003002 x40003003 x40003004) else (some false))) else (some false)) else (none)) else (none)) else (some true)
end
def tinderref08_SameNode.f (k : Nat) (a0_0 : ByteArray) (l0_1 : List Int) (a0_2 : Int) (l0_3 : List (S53)) (l0_4 : List Int) (a1_0 : ByteArray) (l1_1 : List Int) (a1_2 : Int) (l1_3 : List (S53)) (l1_4 : List Int) : Option (Bool) := if a0_0.toList = a1_0.toList then (if a0_2 = a1_2 then ((tinderref03_Same.f k l0_1 l1_1).bind fun t40003 => (if t40003 = true then ((tinderref03_Same.f k l0_4 l1_4).bind fun t40004 => (if t40004 = true then (tinderref08_SameNode.j0 k ((l0_3.length : Int) != (l1_3.length : Int)) a0_0 l0_1 a0_2 l0_3 l0_4 a1_0 l1_1 a1_2 l1_3 l1_4) else (tinderref08_SameNode.j0 k true a0_0 l0_1 a0_2 l0_3 l0_4 a1_0 l1_1 a1_2 l1_3 l1_4))) else (tinderref08_SameNode.j0 k true a0_0 l0_1 a0_2 l0_3 l0_4 a1_0 l1_1 a1_2 l1_3 l1_4))) else (tinderref08_SameNode.j0 k true a0_0 l0_1 a0_2 l0_3 l0_4 a1_0 l1_1 a1_2 l1_3 l1_4)) else (tinderref08_SameNode.j0 k true a0_0 l0_1 a0_2 l0_3 l0_4 a1_0 l1_1 a1_2 l1_3 l1_4)
set_option maxHeartbeats 8000000 in
set_option maxRecDepth 100000 in
theorem tinderref08_SameNode.calls (k : Nat) (a0_0 : ByteArray) (A0_1 : Option Addr) (c0_1 : Nat) (l0_1 : List Int) (a0_2 : Int) (A0_3 : Option Addr) (c0_3 : Nat) (l0_3 : List (S53)) (A0_4 : Option Addr) (c0_4 : Nat) (l0_4 : List Int) (a1_0 : ByteArray) (A1_1 : Option Addr) (c1_1 : Nat) (l1_1 : List Int) (a1_2 : Int) (A1_3 : Option Addr) (c1_3 : Nat) (l1_3 : List (S53)) (A1_4 : Option Addr) (c1_4 : Nat) (l1_4 : List Int) (r : Bool) (w : World) (hr0_1 : Kd.C (Kd.int .u32) w A0_1 l0_1.length l0_1) (hc0_1 : l0_1.length ≤ c0_1) (hr0_3 : Kd.C k53 w A0_3 l0_3.length l0_3) (hc0_3 : l0_3.length ≤ c0_3) (hr0_4 : Kd.C (Kd.int .u32) w A0_4 l0_4.length l0_4) (hc0_4 : l0_4.length ≤ c0_4) (hr1_1 : Kd.C (Kd.int .u32) w A1_1 l1_1.length l1_1) (hc1_1 : l1_1.length ≤ c1_1) (hr1_3 : Kd.C k53 w A1_3 l1_3.length l1_3) (hc1_3 : l1_3.length ≤ c1_3) (hr1_4 : Kd.C (Kd.int .u32) w A1_4 l1_4.length l1_4) (hc1_4 : l1_4.length ≤ c1_4) (h : tinderref08_SameNode.f k a0_0 l0_1 a0_2 l0_3 l0_4 a1_0 l1_1 a1_2 l1_3 l1_4 = some r) :
    Calls Tryd.prog 39 #[.agg #[.string a0_0, .slice A0_1 l0_1.length c0_1, .int .i64 a0_2, .slice A0_3 l0_3.length c0_3, .slice A0_4 l0_4.length c0_4], .agg #[.string a1_0, .slice A1_1 l1_1.length c1_1, .int .i64 a1_2, .slice A1_3 l1_3.length c1_3, .slice A1_4 l1_4.length c1_4]] w fun e w' => e = .returned (.bool r) ∧ Below w.heap.size w w' := by
  have hu44 := Tryd.underlying44
  have HR0_1 := Aside0.mk hr0_1
  have HC0_1 := Aside0.mk hc0_1
  clear hr0_1 hc0_1
  have HR0_3 := Aside0.mk hr0_3
  have HC0_3 := Aside0.mk hc0_3
  clear hr0_3 hc0_3
  have HR0_4 := Aside0.mk hr0_4
  have HC0_4 := Aside0.mk hc0_4
  clear hr0_4 hc0_4
  have HR1_1 := Aside0.mk hr1_1
  have HC1_1 := Aside0.mk hc1_1
  clear hr1_1 hc1_1
  have HR1_3 := Aside0.mk hr1_3
  have HC1_3 := Aside0.mk hc1_3
  clear hr1_3 hc1_3
  have HR1_4 := Aside0.mk hr1_4
  have HC1_4 := Aside0.mk hc1_4
  clear hr1_4 hc1_4
  have HB := Aside0.mk (Below.refl w.heap.size w)
  have H : (if a0_0.toList = a1_0.toList then (if a0_2 = a1_2 then ((tinderref03_Same.f k l0_1 l1_1).bind fun t40003 => (if t40003 = true then ((tinderref03_Same.f k l0_4 l1_4).bind fun t40004 => (if t40004 = true then (tinderref08_SameNode.j0 k ((l0_3.length : Int) != (l1_3.length : Int)) a0_0 l0_1 a0_2 l0_3 l0_4 a1_0 l1_1 a1_2 l1_3 l1_4) else (tinderref08_SameNode.j0 k true a0_0 l0_1 a0_2 l0_3 l0_4 a1_0 l1_1 a1_2 l1_3 l1_4))) else (tinderref08_SameNode.j0 k true a0_0 l0_1 a0_2 l0_3 l0_4 a1_0 l1_1 a1_2 l1_3 l1_4))) else (tinderref08_SameNode.j0 k true a0_0 l0_1 a0_2 l0_3 l0_4 a1_0 l1_1 a1_2 l1_3 l1_4)) else (tinderref08_SameNode.j0 k true a0_0 l0_1 a0_2 l0_3 l0_4 a1_0 l1_1 a1_2 l1_3 l1_4)) = some r := h
  clear h
  have HC3 := Aside0.mk H
  clear H
  go_enter Tryd.func39, Tryd.ntmps39
  go_upto_region 1 with (first | ((with_reducible refine gate_dst (N := 2) rfl ?_); (try (refine gate_guard (by rfl) ?_; dsimp only)); refine box_event ?hg (N := 2) ?hd (cs := #[.string a0_0, .slice A0_1 l0_1.length c0_1, .int .i64 a0_2, .slice A0_3 l0_3.length c0_3, .slice A0_4 l0_4.length c0_4]) (t := 44) ?hr ?_; (case hd => rfl); (case hg => rfl); (case hr => first | (go_simp; done) | (go_simp; rfl)); intro gb40001 hg w4 hbox hb; have n0_ := Aside0.mk (below_step (by repeat (first | (with_reducible first | exact HB.out | apply below_alloc | apply pw_below_drewN | apply below_drew1) | exact HB.out)) hb); have n1_ := Aside0.mk (hbox); have n2_ := Aside0.mk ((by rw [hg]; exact (below_size (by repeat (first | (with_reducible first | exact HB.out | apply below_alloc | apply pw_below_drewN | apply below_drew1) | exact HB.out))) : w.heap.size ≤ gb40001)); have n3_ := Aside0.mk ((by rw [hg]; exact (below_size (by repeat (first | (with_reducible first | exact HB.out | apply below_alloc | apply pw_below_drewN | apply below_drew1) | exact HB.out))) : w.heap.size ≤ gb40001)); clear HB; have HB := n0_; have BK40001 := n1_; have GW40001 := n2_; have GE40001 := n3_; clear n0_ n1_ n2_ n3_; clear hb hbox hg) | ((with_reducible refine gate_dst (N := 3) rfl ?_); (try (refine gate_guard (by rfl) ?_; dsimp only)); refine box_event ?hg (N := 3) ?hd (cs := #[.string a1_0, .slice A1_1 l1_1.length c1_1, .int .i64 a1_2, .slice A1_3 l1_3.length c1_3, .slice A1_4 l1_4.length c1_4]) (t := 44) ?hr ?_; (case hd => rfl); (case hg => rfl); (case hr => first | (go_simp; done) | (go_simp; rfl)); intro gb40002 hg w5 hbox hb; have n0_ := Aside0.mk (blk_below (g := gb40001) (o := .cells #[.string a0_0, .slice A0_1 l0_1.length c0_1, .int .i64 a0_2, .slice A0_3 l0_3.length c0_3, .slice A0_4 l0_4.length c0_4] 44 (0, 0)) (by (with_reducible repeat (first | refine blk_drewN ?_ _ | refine blk_drew ?_ | refine blk_alloc ?_ _)); exact BK40001.out) hb); have n1_ := Aside0.mk (below_step (by repeat (first | (with_reducible first | exact HB.out | apply below_alloc | apply pw_below_drewN | apply below_drew1 | refine below_set ?_ GE40001.out) | exact HB.out)) hb); have n2_ := Aside0.mk (hbox); have n3_ := Aside0.mk ((by rw [hg]; exact (below_size (by repeat (first | (with_reducible first | exact HB.out | apply below_alloc | apply pw_below_drewN | apply below_drew1 | refine below_set ?_ GE40001.out) | exact HB.out))) : w.heap.size ≤ gb40002)); have n4_ := Aside0.mk ((by rw [hg]; exact (below_size (by repeat (first | (with_reducible first | exact HB.out | apply below_alloc | apply pw_below_drewN | apply below_drew1 | refine below_set ?_ GE40001.out) | exact HB.out))) : w.heap.size ≤ gb40002)); have n5_ := Aside0.mk ((by rw [hg]; exact Nat.ne_of_lt (blk_lt (g := gb40001) (o := .cells #[.string a0_0, .slice A0_1 l0_1.length c0_1, .int .i64 a0_2, .slice A0_3 l0_3.length c0_3, .slice A0_4 l0_4.length c0_4] 44 (0, 0)) (by (with_reducible repeat (first | refine blk_drewN ?_ _ | refine blk_drew ?_ | refine blk_alloc ?_ _)); exact BK40001.out)) : gb40001 ≠ gb40002)); have n6_ := Aside0.mk ((by rw [hg]; exact Nat.ne_of_gt (blk_lt (g := gb40001) (o := .cells #[.string a0_0, .slice A0_1 l0_1.length c0_1, .int .i64 a0_2, .slice A0_3 l0_3.length c0_3, .slice A0_4 l0_4.length c0_4] 44 (0, 0)) (by (with_reducible repeat (first | refine blk_drewN ?_ _ | refine blk_drew ?_ | refine blk_alloc ?_ _)); exact BK40001.out)) : gb40002 ≠ gb40001)); clear BK40001; clear HB; have BK40001 := n0_; have HB := n1_; have BK40002 := n2_; have GW40002 := n3_; have GE40002 := n4_; have NB40001_40002 := n5_; have NB40002_40001 := n6_; clear n0_ n1_ n2_ n3_ n4_ n5_ n6_; clear hb hbox hg))
  repeat (go_quiet (first | ((with_reducible refine gate_dst (N := 2) rfl ?_); (try (refine gate_guard (by rfl) ?_; dsimp only)); refine box_event ?hg (N := 2) ?hd (cs := #[.string a0_0, .slice A0_1 l0_1.length c0_1, .int .i64 a0_2, .slice A0_3 l0_3.length c0_3, .slice A0_4 l0_4.length c0_4]) (t := 44) ?hr ?_; (case hd => rfl); (case hg => rfl); (case hr => first | (go_simp; done) | (go_simp; rfl)); intro gb40001 hg w4 hbox hb; have n0_ := Aside0.mk (below_step (by repeat (first | (with_reducible first | exact HB.out | apply below_alloc | apply pw_below_drewN | apply below_drew1) | exact HB.out)) hb); have n1_ := Aside0.mk (hbox); have n2_ := Aside0.mk ((by rw [hg]; exact (below_size (by repeat (first | (with_reducible first | exact HB.out | apply below_alloc | apply pw_below_drewN | apply below_drew1) | exact HB.out))) : w.heap.size ≤ gb40001)); have n3_ := Aside0.mk ((by rw [hg]; exact (below_size (by repeat (first | (with_reducible first | exact HB.out | apply below_alloc | apply pw_below_drewN | apply below_drew1) | exact HB.out))) : w.heap.size ≤ gb40001)); clear HB; have HB := n0_; have BK40001 := n1_; have GW40001 := n2_; have GE40001 := n3_; clear n0_ n1_ n2_ n3_; clear hb hbox hg) | ((with_reducible refine gate_dst (N := 3) rfl ?_); (try (refine gate_guard (by rfl) ?_; dsimp only)); refine box_event ?hg (N := 3) ?hd (cs := #[.string a1_0, .slice A1_1 l1_1.length c1_1, .int .i64 a1_2, .slice A1_3 l1_3.length c1_3, .slice A1_4 l1_4.length c1_4]) (t := 44) ?hr ?_; (case hd => rfl); (case hg => rfl); (case hr => first | (go_simp; done) | (go_simp; rfl)); intro gb40002 hg w5 hbox hb; have n0_ := Aside0.mk (blk_below (g := gb40001) (o := .cells #[.string a0_0, .slice A0_1 l0_1.length c0_1, .int .i64 a0_2, .slice A0_3 l0_3.length c0_3, .slice A0_4 l0_4.length c0_4] 44 (0, 0)) (by (with_reducible repeat (first | refine blk_drewN ?_ _ | refine blk_drew ?_ | refine blk_alloc ?_ _)); exact BK40001.out) hb); have n1_ := Aside0.mk (below_step (by repeat (first | (with_reducible first | exact HB.out | apply below_alloc | apply pw_below_drewN | apply below_drew1 | refine below_set ?_ GE40001.out) | exact HB.out)) hb); have n2_ := Aside0.mk (hbox); have n3_ := Aside0.mk ((by rw [hg]; exact (below_size (by repeat (first | (with_reducible first | exact HB.out | apply below_alloc | apply pw_below_drewN | apply below_drew1 | refine below_set ?_ GE40001.out) | exact HB.out))) : w.heap.size ≤ gb40002)); have n4_ := Aside0.mk ((by rw [hg]; exact (below_size (by repeat (first | (with_reducible first | exact HB.out | apply below_alloc | apply pw_below_drewN | apply below_drew1 | refine below_set ?_ GE40001.out) | exact HB.out))) : w.heap.size ≤ gb40002)); have n5_ := Aside0.mk ((by rw [hg]; exact Nat.ne_of_lt (blk_lt (g := gb40001) (o := .cells #[.string a0_0, .slice A0_1 l0_1.length c0_1, .int .i64 a0_2, .slice A0_3 l0_3.length c0_3, .slice A0_4 l0_4.length c0_4] 44 (0, 0)) (by (with_reducible repeat (first | refine blk_drewN ?_ _ | refine blk_drew ?_ | refine blk_alloc ?_ _)); exact BK40001.out)) : gb40001 ≠ gb40002)); have n6_ := Aside0.mk ((by rw [hg]; exact Nat.ne_of_gt (blk_lt (g := gb40001) (o := .cells #[.string a0_0, .slice A0_1 l0_1.length c0_1, .int .i64 a0_2, .slice A0_3 l0_3.length c0_3, .slice A0_4 l0_4.length c0_4] 44 (0, 0)) (by (with_reducible repeat (first | refine blk_drewN ?_ _ | refine blk_drew ?_ | refine blk_alloc ?_ _)); exact BK40001.out)) : gb40002 ≠ gb40001)); clear BK40001; clear HB; have BK40001 := n0_; have HB := n1_; have BK40002 := n2_; have GW40002 := n3_; have GE40002 := n4_; have NB40001_40002 := n5_; have NB40002_40001 := n6_; clear n0_ n1_ n2_ n3_ n4_ n5_ n6_; clear hb hbox hg)); go_upto_region 1 with (first | ((with_reducible refine gate_dst (N := 2) rfl ?_); (try (refine gate_guard (by rfl) ?_; dsimp only)); refine box_event ?hg (N := 2) ?hd (cs := #[.string a0_0, .slice A0_1 l0_1.length c0_1, .int .i64 a0_2, .slice A0_3 l0_3.length c0_3, .slice A0_4 l0_4.length c0_4]) (t := 44) ?hr ?_; (case hd => rfl); (case hg => rfl); (case hr => first | (go_simp; done) | (go_simp; rfl)); intro gb40001 hg w4 hbox hb; have n0_ := Aside0.mk (below_step (by repeat (first | (with_reducible first | exact HB.out | apply below_alloc | apply pw_below_drewN | apply below_drew1) | exact HB.out)) hb); have n1_ := Aside0.mk (hbox); have n2_ := Aside0.mk ((by rw [hg]; exact (below_size (by repeat (first | (with_reducible first | exact HB.out | apply below_alloc | apply pw_below_drewN | apply below_drew1) | exact HB.out))) : w.heap.size ≤ gb40001)); have n3_ := Aside0.mk ((by rw [hg]; exact (below_size (by repeat (first | (with_reducible first | exact HB.out | apply below_alloc | apply pw_below_drewN | apply below_drew1) | exact HB.out))) : w.heap.size ≤ gb40001)); clear HB; have HB := n0_; have BK40001 := n1_; have GW40001 := n2_; have GE40001 := n3_; clear n0_ n1_ n2_ n3_; clear hb hbox hg) | ((with_reducible refine gate_dst (N := 3) rfl ?_); (try (refine gate_guard (by rfl) ?_; dsimp only)); refine box_event ?hg (N := 3) ?hd (cs := #[.string a1_0, .slice A1_1 l1_1.length c1_1, .int .i64 a1_2, .slice A1_3 l1_3.length c1_3, .slice A1_4 l1_4.length c1_4]) (t := 44) ?hr ?_; (case hd => rfl); (case hg => rfl); (case hr => first | (go_simp; done) | (go_simp; rfl)); intro gb40002 hg w5 hbox hb; have n0_ := Aside0.mk (blk_below (g := gb40001) (o := .cells #[.string a0_0, .slice A0_1 l0_1.length c0_1, .int .i64 a0_2, .slice A0_3 l0_3.length c0_3, .slice A0_4 l0_4.length c0_4] 44 (0, 0)) (by (with_reducible repeat (first | refine blk_drewN ?_ _ | refine blk_drew ?_ | refine blk_alloc ?_ _)); exact BK40001.out) hb); have n1_ := Aside0.mk (below_step (by repeat (first | (with_reducible first | exact HB.out | apply below_alloc | apply pw_below_drewN | apply below_drew1 | refine below_set ?_ GE40001.out) | exact HB.out)) hb); have n2_ := Aside0.mk (hbox); have n3_ := Aside0.mk ((by rw [hg]; exact (below_size (by repeat (first | (with_reducible first | exact HB.out | apply below_alloc | apply pw_below_drewN | apply below_drew1 | refine below_set ?_ GE40001.out) | exact HB.out))) : w.heap.size ≤ gb40002)); have n4_ := Aside0.mk ((by rw [hg]; exact (below_size (by repeat (first | (with_reducible first | exact HB.out | apply below_alloc | apply pw_below_drewN | apply below_drew1 | refine below_set ?_ GE40001.out) | exact HB.out))) : w.heap.size ≤ gb40002)); have n5_ := Aside0.mk ((by rw [hg]; exact Nat.ne_of_lt (blk_lt (g := gb40001) (o := .cells #[.string a0_0, .slice A0_1 l0_1.length c0_1, .int .i64 a0_2, .slice A0_3 l0_3.length c0_3, .slice A0_4 l0_4.length c0_4] 44 (0, 0)) (by (with_reducible repeat (first | refine blk_drewN ?_ _ | refine blk_drew ?_ | refine blk_alloc ?_ _)); exact BK40001.out)) : gb40001 ≠ gb40002)); have n6_ := Aside0.mk ((by rw [hg]; exact Nat.ne_of_gt (blk_lt (g := gb40001) (o := .cells #[.string a0_0, .slice A0_1 l0_1.length c0_1, .int .i64 a0_2, .slice A0_3 l0_3.length c0_3, .slice A0_4 l0_4.length c0_4] 44 (0, 0)) (by (with_reducible repeat (first | refine blk_drewN ?_ _ | refine blk_drew ?_ | refine blk_alloc ?_ _)); exact BK40001.out)) : gb40002 ≠ gb40001)); clear BK40001; clear HB; have BK40001 := n0_; have HB := n1_; have BK40002 := n2_; have GW40002 := n3_; have GE40002 := n4_; have NB40001_40002 := n5_; have NB40002_40001 := n6_; clear n0_ n1_ n2_ n3_ n4_ n5_ n6_; clear hb hbox hg)))
  (try simp only [Act.put, List.setIfInBounds_toArray, List.set_cons_zero, List.set_cons_succ])
  go_cut [42] (fun v42 wc => ∃ (kq : Nat) (x42_2 : Bool), v42 = .bool x42_2 ∧ Aside0 (tinderref08_SameNode.j0 kq x42_2 a0_0 l0_1 a0_2 l0_3 l0_4 a1_0 l1_1 a1_2 l1_3 l1_4 = some r) ∧ Aside0 (kq ≤ k) ∧ Aside0 (wc.heap[gb40001]? = some (.cells #[.string a0_0, (.slice A0_1 l0_1.length c0_1), .int .i64 a0_2, (.slice A0_3 l0_3.length c0_3), (.slice A0_4 l0_4.length c0_4)] 44 (0, 0))) ∧ Aside0 (wc.heap[gb40002]? = some (.cells #[.string a1_0, (.slice A1_1 l1_1.length c1_1), .int .i64 a1_2, (.slice A1_3 l1_3.length c1_3), (.slice A1_4 l1_4.length c1_4)] 44 (0, 0))) ∧ Aside0 (Below w.heap.size w wc))
  case first =>
    have H := HC3.out
    clear HC3
    by_cases c6 : a0_0.toList = a1_0.toList
    · rw [if_pos c6] at H
      have c6b0 : (a0_0.toList == a1_0.toList) = true := beq_iff_eq.mpr c6
      have c6b1 : (a0_0.toList != a1_0.toList) = false := bne_eq_false_iff_eq.mpr c6
      clear c6
      (first | rw [c6b0] | (simp only [i64_w, i32_w]; rw [c6b0]) | skip)
      by_cases c7 : a0_2 = a1_2
      · rw [if_pos c7] at H
        have c7b0 : (a0_2 == a1_2) = true := beq_iff_eq.mpr c7
        have c7b1 : (a0_2 != a1_2) = false := bne_eq_false_iff_eq.mpr c7
        clear c7
        replace H := Option.bind_eq_some_iff.mp H
        obtain ⟨t40003, A80, H⟩ := H
        replace H : (if t40003 = true then ((tinderref03_Same.f k l0_4 l1_4).bind fun t40004 => (if t40004 = true then (tinderref08_SameNode.j0 k ((l0_3.length : Int) != (l1_3.length : Int)) a0_0 l0_1 a0_2 l0_3 l0_4 a1_0 l1_1 a1_2 l1_3 l1_4) else (tinderref08_SameNode.j0 k true a0_0 l0_1 a0_2 l0_3 l0_4 a1_0 l1_1 a1_2 l1_3 l1_4))) else (tinderref08_SameNode.j0 k true a0_0 l0_1 a0_2 l0_3 l0_4 a1_0 l1_1 a1_2 l1_3 l1_4)) = some r := H
        have A8 := Aside0.mk A80
        clear A80
        by_cases c9 : t40003 = true
        · subst c9
          have H1 : ((tinderref03_Same.f k l0_4 l1_4).bind fun t40004 => (if t40004 = true then (tinderref08_SameNode.j0 k ((l0_3.length : Int) != (l1_3.length : Int)) a0_0 l0_1 a0_2 l0_3 l0_4 a1_0 l1_1 a1_2 l1_3 l1_4) else (tinderref08_SameNode.j0 k true a0_0 l0_1 a0_2 l0_3 l0_4 a1_0 l1_1 a1_2 l1_3 l1_4))) = some r := by rw [if_pos rfl] at H; exact H
          clear H
          have H := H1
          clear H1
          replace H := Option.bind_eq_some_iff.mp H
          obtain ⟨t40004, A100, H⟩ := H
          replace H : (if t40004 = true then (tinderref08_SameNode.j0 k ((l0_3.length : Int) != (l1_3.length : Int)) a0_0 l0_1 a0_2 l0_3 l0_4 a1_0 l1_1 a1_2 l1_3 l1_4) else (tinderref08_SameNode.j0 k true a0_0 l0_1 a0_2 l0_3 l0_4 a1_0 l1_1 a1_2 l1_3 l1_4)) = some r := H
          have A10 := Aside0.mk A100
          clear A100
          by_cases c11 : t40004 = true
          · subst c11
            have H1 : (tinderref08_SameNode.j0 k ((l0_3.length : Int) != (l1_3.length : Int)) a0_0 l0_1 a0_2 l0_3 l0_4 a1_0 l1_1 a1_2 l1_3 l1_4) = some r := by rw [if_pos rfl] at H; exact H
            clear H
            have H := H1
            clear H1
            have H' := Aside0.mk H
            clear H
            have hnb12 := NB40001_40002.out
            have hnc12 := NB40002_40001.out
            have hcz13_0 : w5.cell? ⟨gb40001, 0, none⟩ = some (.string a0_0) := (blk_cell BK40001.out 0).trans rfl
            have hcz13_1 : w5.cell? ⟨gb40001, 1, none⟩ = some (.slice A0_1 l0_1.length c0_1) := (blk_cell BK40001.out 1).trans rfl
            have hcz13_2 : w5.cell? ⟨gb40001, 2, none⟩ = some (.int .i64 a0_2) := (blk_cell BK40001.out 2).trans rfl
            have hcz13_3 : w5.cell? ⟨gb40001, 3, none⟩ = some (.slice A0_3 l0_3.length c0_3) := (blk_cell BK40001.out 3).trans rfl
            have hcz13_4 : w5.cell? ⟨gb40001, 4, none⟩ = some (.slice A0_4 l0_4.length c0_4) := (blk_cell BK40001.out 4).trans rfl
            have hfz13_0 := blk_frozen BK40001.out 0
            have hfz13_1 := blk_frozen BK40001.out 1
            have hfz13_2 := blk_frozen BK40001.out 2
            have hfz13_3 := blk_frozen BK40001.out 3
            have hfz13_4 := blk_frozen BK40001.out 4
            have hcz14_0 : w5.cell? ⟨gb40002, 0, none⟩ = some (.string a1_0) := (blk_cell BK40002.out 0).trans rfl
            have hcz14_1 : w5.cell? ⟨gb40002, 1, none⟩ = some (.slice A1_1 l1_1.length c1_1) := (blk_cell BK40002.out 1).trans rfl
            have hcz14_2 : w5.cell? ⟨gb40002, 2, none⟩ = some (.int .i64 a1_2) := (blk_cell BK40002.out 2).trans rfl
            have hcz14_3 : w5.cell? ⟨gb40002, 3, none⟩ = some (.slice A1_3 l1_3.length c1_3) := (blk_cell BK40002.out 3).trans rfl
            have hcz14_4 : w5.cell? ⟨gb40002, 4, none⟩ = some (.slice A1_4 l1_4.length c1_4) := (blk_cell BK40002.out 4).trans rfl
            have hfz14_0 := blk_frozen BK40002.out 0
            have hfz14_1 := blk_frozen BK40002.out 1
            have hfz14_2 := blk_frozen BK40002.out 2
            have hfz14_3 := blk_frozen BK40002.out 3
            have hfz14_4 := blk_frozen BK40002.out 4
            go_wp2_with (first | (go_at_call 26; (with_reducible refine (tinderref03_Same.calls k _ _ l0_1 _ _ l1_1 true _ ?side1 ?side2 ?side3 ?side4 A8.out).mono ?_); (case side1 => repeat (first | exact (Kd.C_below HR0_1.out HB.out) | (with_reducible refine Kd.C_alloc ?_ _) | (with_reducible refine Kd.C_drewN ?_ _) | (with_reducible refine Kd.C_drew ?_))); (case side2 => exact HC0_1.out); (case side3 => repeat (first | exact (Kd.C_below HR1_1.out HB.out) | (with_reducible refine Kd.C_alloc ?_ _) | (with_reducible refine Kd.C_drewN ?_ _) | (with_reducible refine Kd.C_drew ?_))); (case side4 => exact HC1_1.out); rintro e w' ⟨rfl, ⟨nd, rfl⟩⟩; (try first | exact ⟨rfl, _, World.drewN_drewN _ _ _⟩ | exact ⟨rfl, _, Eq.trans (World.drewN_drewN _ _ _) (congrArg (World.drewN _) (Nat.add_assoc _ _ _))⟩)) | (go_at_call 26; (with_reducible refine (tinderref03_Same.calls k _ _ l0_4 _ _ l1_4 true _ ?side1 ?side2 ?side3 ?side4 A10.out).mono ?_); (case side1 => repeat (first | exact (Kd.C_below HR0_4.out (by repeat (first | (with_reducible first | exact HB.out | apply below_alloc | apply pw_below_drewN | apply below_drew1 | refine below_set ?_ GE40001.out | refine below_set ?_ GE40002.out) | exact HB.out))) | (with_reducible refine Kd.C_alloc ?_ _) | (with_reducible refine Kd.C_drewN ?_ _) | (with_reducible refine Kd.C_drew ?_))); (case side2 => exact HC0_4.out); (case side3 => repeat (first | exact (Kd.C_below HR1_4.out (by repeat (first | (with_reducible first | exact HB.out | apply below_alloc | apply pw_below_drewN | apply below_drew1 | refine below_set ?_ GE40001.out | refine below_set ?_ GE40002.out) | exact HB.out))) | (with_reducible refine Kd.C_alloc ?_ _) | (with_reducible refine Kd.C_drewN ?_ _) | (with_reducible refine Kd.C_drew ?_))); (case side4 => exact HC1_4.out); rintro e w' ⟨rfl, ⟨nd, rfl⟩⟩; (try first | exact ⟨rfl, _, World.drewN_drewN _ _ _⟩ | exact ⟨rfl, _, Eq.trans (World.drewN_drewN _ _ _) (congrArg (World.drewN _) (Nat.add_assoc _ _ _))⟩)))
            repeat (go_quiet (first | (go_at_call 26; (with_reducible refine (tinderref03_Same.calls k _ _ l0_1 _ _ l1_1 true _ ?side1 ?side2 ?side3 ?side4 A8.out).mono ?_); (case side1 => repeat (first | exact (Kd.C_below HR0_1.out HB.out) | (with_reducible refine Kd.C_alloc ?_ _) | (with_reducible refine Kd.C_drewN ?_ _) | (with_reducible refine Kd.C_drew ?_))); (case side2 => exact HC0_1.out); (case side3 => repeat (first | exact (Kd.C_below HR1_1.out HB.out) | (with_reducible refine Kd.C_alloc ?_ _) | (with_reducible refine Kd.C_drewN ?_ _) | (with_reducible refine Kd.C_drew ?_))); (case side4 => exact HC1_1.out); rintro e w' ⟨rfl, ⟨nd, rfl⟩⟩; (try first | exact ⟨rfl, _, World.drewN_drewN _ _ _⟩ | exact ⟨rfl, _, Eq.trans (World.drewN_drewN _ _ _) (congrArg (World.drewN _) (Nat.add_assoc _ _ _))⟩)) | (go_at_call 26; (with_reducible refine (tinderref03_Same.calls k _ _ l0_4 _ _ l1_4 true _ ?side1 ?side2 ?side3 ?side4 A10.out).mono ?_); (case side1 => repeat (first | exact (Kd.C_below HR0_4.out (by repeat (first | (with_reducible first | exact HB.out | apply below_alloc | apply pw_below_drewN | apply below_drew1 | refine below_set ?_ GE40001.out | refine below_set ?_ GE40002.out) | exact HB.out))) | (with_reducible refine Kd.C_alloc ?_ _) | (with_reducible refine Kd.C_drewN ?_ _) | (with_reducible refine Kd.C_drew ?_))); (case side2 => exact HC0_4.out); (case side3 => repeat (first | exact (Kd.C_below HR1_4.out (by repeat (first | (with_reducible first | exact HB.out | apply below_alloc | apply pw_below_drewN | apply below_drew1 | refine below_set ?_ GE40001.out | refine below_set ?_ GE40002.out) | exact HB.out))) | (with_reducible refine Kd.C_alloc ?_ _) | (with_reducible refine Kd.C_drewN ?_ _) | (with_reducible refine Kd.C_drew ?_))); (case side4 => exact HC1_4.out); rintro e w' ⟨rfl, ⟨nd, rfl⟩⟩; (try first | exact ⟨rfl, _, World.drewN_drewN _ _ _⟩ | exact ⟨rfl, _, Eq.trans (World.drewN_drewN _ _ _) (congrArg (World.drewN _) (Nat.add_assoc _ _ _))⟩))); try go_wp2_with (first | (go_at_call 26; (with_reducible refine (tinderref03_Same.calls k _ _ l0_1 _ _ l1_1 true _ ?side1 ?side2 ?side3 ?side4 A8.out).mono ?_); (case side1 => repeat (first | exact (Kd.C_below HR0_1.out HB.out) | (with_reducible refine Kd.C_alloc ?_ _) | (with_reducible refine Kd.C_drewN ?_ _) | (with_reducible refine Kd.C_drew ?_))); (case side2 => exact HC0_1.out); (case side3 => repeat (first | exact (Kd.C_below HR1_1.out HB.out) | (with_reducible refine Kd.C_alloc ?_ _) | (with_reducible refine Kd.C_drewN ?_ _) | (with_reducible refine Kd.C_drew ?_))); (case side4 => exact HC1_1.out); rintro e w' ⟨rfl, ⟨nd, rfl⟩⟩; (try first | exact ⟨rfl, _, World.drewN_drewN _ _ _⟩ | exact ⟨rfl, _, Eq.trans (World.drewN_drewN _ _ _) (congrArg (World.drewN _) (Nat.add_assoc _ _ _))⟩)) | (go_at_call 26; (with_reducible refine (tinderref03_Same.calls k _ _ l0_4 _ _ l1_4 true _ ?side1 ?side2 ?side3 ?side4 A10.out).mono ?_); (case side1 => repeat (first | exact (Kd.C_below HR0_4.out (by repeat (first | (with_reducible first | exact HB.out | apply below_alloc | apply pw_below_drewN | apply below_drew1 | refine below_set ?_ GE40001.out | refine below_set ?_ GE40002.out) | exact HB.out))) | (with_reducible refine Kd.C_alloc ?_ _) | (with_reducible refine Kd.C_drewN ?_ _) | (with_reducible refine Kd.C_drew ?_))); (case side2 => exact HC0_4.out); (case side3 => repeat (first | exact (Kd.C_below HR1_4.out (by repeat (first | (with_reducible first | exact HB.out | apply below_alloc | apply pw_below_drewN | apply below_drew1 | refine below_set ?_ GE40001.out | refine below_set ?_ GE40002.out) | exact HB.out))) | (with_reducible refine Kd.C_alloc ?_ _) | (with_reducible refine Kd.C_drewN ?_ _) | (with_reducible refine Kd.C_drew ?_))); (case side4 => exact HC1_4.out); rintro e w' ⟨rfl, ⟨nd, rfl⟩⟩; (try first | exact ⟨rfl, _, World.drewN_drewN _ _ _⟩ | exact ⟨rfl, _, Eq.trans (World.drewN_drewN _ _ _) (congrArg (World.drewN _) (Nat.add_assoc _ _ _))⟩))))
            go_meet
            case rel => exact ⟨_, (((l0_3.length : Int) != (l1_3.length : Int))), (by first | rfl | (simp; done) | (simp [*]; done)), H', ⟨by first | omega | exact Nat.le_refl _⟩, ⟨by (with_reducible repeat (first | refine blk_drewN ?_ _ | refine blk_drew ?_ | refine blk_alloc ?_ _)); exact BK40001.out⟩, ⟨by (with_reducible repeat (first | refine blk_drewN ?_ _ | refine blk_drew ?_ | refine blk_alloc ?_ _)); exact BK40002.out⟩, ⟨by repeat (first | (with_reducible first | exact HB.out | apply below_alloc | apply pw_below_drewN | apply below_drew1 | refine below_set ?_ GE40001.out | refine below_set ?_ GE40002.out) | exact HB.out)⟩⟩
          · replace c11 := Bool.eq_false_iff.mpr c11
            subst c11
            have H1 : (tinderref08_SameNode.j0 k true a0_0 l0_1 a0_2 l0_3 l0_4 a1_0 l1_1 a1_2 l1_3 l1_4) = some r := by rw [if_neg (show ¬ (false = true) by decide)] at H; exact H
            clear H
            have H := H1
            clear H1
            have H' := Aside0.mk H
            clear H
            have hnb15 := NB40001_40002.out
            have hnc15 := NB40002_40001.out
            have hcz16_0 : w5.cell? ⟨gb40001, 0, none⟩ = some (.string a0_0) := (blk_cell BK40001.out 0).trans rfl
            have hcz16_1 : w5.cell? ⟨gb40001, 1, none⟩ = some (.slice A0_1 l0_1.length c0_1) := (blk_cell BK40001.out 1).trans rfl
            have hcz16_2 : w5.cell? ⟨gb40001, 2, none⟩ = some (.int .i64 a0_2) := (blk_cell BK40001.out 2).trans rfl
            have hcz16_3 : w5.cell? ⟨gb40001, 3, none⟩ = some (.slice A0_3 l0_3.length c0_3) := (blk_cell BK40001.out 3).trans rfl
            have hcz16_4 : w5.cell? ⟨gb40001, 4, none⟩ = some (.slice A0_4 l0_4.length c0_4) := (blk_cell BK40001.out 4).trans rfl
            have hfz16_0 := blk_frozen BK40001.out 0
            have hfz16_1 := blk_frozen BK40001.out 1
            have hfz16_2 := blk_frozen BK40001.out 2
            have hfz16_3 := blk_frozen BK40001.out 3
            have hfz16_4 := blk_frozen BK40001.out 4
            have hcz17_0 : w5.cell? ⟨gb40002, 0, none⟩ = some (.string a1_0) := (blk_cell BK40002.out 0).trans rfl
            have hcz17_1 : w5.cell? ⟨gb40002, 1, none⟩ = some (.slice A1_1 l1_1.length c1_1) := (blk_cell BK40002.out 1).trans rfl
            have hcz17_2 : w5.cell? ⟨gb40002, 2, none⟩ = some (.int .i64 a1_2) := (blk_cell BK40002.out 2).trans rfl
            have hcz17_3 : w5.cell? ⟨gb40002, 3, none⟩ = some (.slice A1_3 l1_3.length c1_3) := (blk_cell BK40002.out 3).trans rfl
            have hcz17_4 : w5.cell? ⟨gb40002, 4, none⟩ = some (.slice A1_4 l1_4.length c1_4) := (blk_cell BK40002.out 4).trans rfl
            have hfz17_0 := blk_frozen BK40002.out 0
            have hfz17_1 := blk_frozen BK40002.out 1
            have hfz17_2 := blk_frozen BK40002.out 2
            have hfz17_3 := blk_frozen BK40002.out 3
            have hfz17_4 := blk_frozen BK40002.out 4
            go_wp2_with (first | (go_at_call 26; (with_reducible refine (tinderref03_Same.calls k _ _ l0_1 _ _ l1_1 true _ ?side1 ?side2 ?side3 ?side4 A8.out).mono ?_); (case side1 => repeat (first | exact (Kd.C_below HR0_1.out HB.out) | (with_reducible refine Kd.C_alloc ?_ _) | (with_reducible refine Kd.C_drewN ?_ _) | (with_reducible refine Kd.C_drew ?_))); (case side2 => exact HC0_1.out); (case side3 => repeat (first | exact (Kd.C_below HR1_1.out HB.out) | (with_reducible refine Kd.C_alloc ?_ _) | (with_reducible refine Kd.C_drewN ?_ _) | (with_reducible refine Kd.C_drew ?_))); (case side4 => exact HC1_1.out); rintro e w' ⟨rfl, ⟨nd, rfl⟩⟩; (try first | exact ⟨rfl, _, World.drewN_drewN _ _ _⟩ | exact ⟨rfl, _, Eq.trans (World.drewN_drewN _ _ _) (congrArg (World.drewN _) (Nat.add_assoc _ _ _))⟩)) | (go_at_call 26; (with_reducible refine (tinderref03_Same.calls k _ _ l0_4 _ _ l1_4 false _ ?side1 ?side2 ?side3 ?side4 A10.out).mono ?_); (case side1 => repeat (first | exact (Kd.C_below HR0_4.out (by repeat (first | (with_reducible first | exact HB.out | apply below_alloc | apply pw_below_drewN | apply below_drew1 | refine below_set ?_ GE40001.out | refine below_set ?_ GE40002.out) | exact HB.out))) | (with_reducible refine Kd.C_alloc ?_ _) | (with_reducible refine Kd.C_drewN ?_ _) | (with_reducible refine Kd.C_drew ?_))); (case side2 => exact HC0_4.out); (case side3 => repeat (first | exact (Kd.C_below HR1_4.out (by repeat (first | (with_reducible first | exact HB.out | apply below_alloc | apply pw_below_drewN | apply below_drew1 | refine below_set ?_ GE40001.out | refine below_set ?_ GE40002.out) | exact HB.out))) | (with_reducible refine Kd.C_alloc ?_ _) | (with_reducible refine Kd.C_drewN ?_ _) | (with_reducible refine Kd.C_drew ?_))); (case side4 => exact HC1_4.out); rintro e w' ⟨rfl, ⟨nd, rfl⟩⟩; (try first | exact ⟨rfl, _, World.drewN_drewN _ _ _⟩ | exact ⟨rfl, _, Eq.trans (World.drewN_drewN _ _ _) (congrArg (World.drewN _) (Nat.add_assoc _ _ _))⟩)))
            repeat (go_quiet (first | (go_at_call 26; (with_reducible refine (tinderref03_Same.calls k _ _ l0_1 _ _ l1_1 true _ ?side1 ?side2 ?side3 ?side4 A8.out).mono ?_); (case side1 => repeat (first | exact (Kd.C_below HR0_1.out HB.out) | (with_reducible refine Kd.C_alloc ?_ _) | (with_reducible refine Kd.C_drewN ?_ _) | (with_reducible refine Kd.C_drew ?_))); (case side2 => exact HC0_1.out); (case side3 => repeat (first | exact (Kd.C_below HR1_1.out HB.out) | (with_reducible refine Kd.C_alloc ?_ _) | (with_reducible refine Kd.C_drewN ?_ _) | (with_reducible refine Kd.C_drew ?_))); (case side4 => exact HC1_1.out); rintro e w' ⟨rfl, ⟨nd, rfl⟩⟩; (try first | exact ⟨rfl, _, World.drewN_drewN _ _ _⟩ | exact ⟨rfl, _, Eq.trans (World.drewN_drewN _ _ _) (congrArg (World.drewN _) (Nat.add_assoc _ _ _))⟩)) | (go_at_call 26; (with_reducible refine (tinderref03_Same.calls k _ _ l0_4 _ _ l1_4 false _ ?side1 ?side2 ?side3 ?side4 A10.out).mono ?_); (case side1 => repeat (first | exact (Kd.C_below HR0_4.out (by repeat (first | (with_reducible first | exact HB.out | apply below_alloc | apply pw_below_drewN | apply below_drew1 | refine below_set ?_ GE40001.out | refine below_set ?_ GE40002.out) | exact HB.out))) | (with_reducible refine Kd.C_alloc ?_ _) | (with_reducible refine Kd.C_drewN ?_ _) | (with_reducible refine Kd.C_drew ?_))); (case side2 => exact HC0_4.out); (case side3 => repeat (first | exact (Kd.C_below HR1_4.out (by repeat (first | (with_reducible first | exact HB.out | apply below_alloc | apply pw_below_drewN | apply below_drew1 | refine below_set ?_ GE40001.out | refine below_set ?_ GE40002.out) | exact HB.out))) | (with_reducible refine Kd.C_alloc ?_ _) | (with_reducible refine Kd.C_drewN ?_ _) | (with_reducible refine Kd.C_drew ?_))); (case side4 => exact HC1_4.out); rintro e w' ⟨rfl, ⟨nd, rfl⟩⟩; (try first | exact ⟨rfl, _, World.drewN_drewN _ _ _⟩ | exact ⟨rfl, _, Eq.trans (World.drewN_drewN _ _ _) (congrArg (World.drewN _) (Nat.add_assoc _ _ _))⟩))); try go_wp2_with (first | (go_at_call 26; (with_reducible refine (tinderref03_Same.calls k _ _ l0_1 _ _ l1_1 true _ ?side1 ?side2 ?side3 ?side4 A8.out).mono ?_); (case side1 => repeat (first | exact (Kd.C_below HR0_1.out HB.out) | (with_reducible refine Kd.C_alloc ?_ _) | (with_reducible refine Kd.C_drewN ?_ _) | (with_reducible refine Kd.C_drew ?_))); (case side2 => exact HC0_1.out); (case side3 => repeat (first | exact (Kd.C_below HR1_1.out HB.out) | (with_reducible refine Kd.C_alloc ?_ _) | (with_reducible refine Kd.C_drewN ?_ _) | (with_reducible refine Kd.C_drew ?_))); (case side4 => exact HC1_1.out); rintro e w' ⟨rfl, ⟨nd, rfl⟩⟩; (try first | exact ⟨rfl, _, World.drewN_drewN _ _ _⟩ | exact ⟨rfl, _, Eq.trans (World.drewN_drewN _ _ _) (congrArg (World.drewN _) (Nat.add_assoc _ _ _))⟩)) | (go_at_call 26; (with_reducible refine (tinderref03_Same.calls k _ _ l0_4 _ _ l1_4 false _ ?side1 ?side2 ?side3 ?side4 A10.out).mono ?_); (case side1 => repeat (first | exact (Kd.C_below HR0_4.out (by repeat (first | (with_reducible first | exact HB.out | apply below_alloc | apply pw_below_drewN | apply below_drew1 | refine below_set ?_ GE40001.out | refine below_set ?_ GE40002.out) | exact HB.out))) | (with_reducible refine Kd.C_alloc ?_ _) | (with_reducible refine Kd.C_drewN ?_ _) | (with_reducible refine Kd.C_drew ?_))); (case side2 => exact HC0_4.out); (case side3 => repeat (first | exact (Kd.C_below HR1_4.out (by repeat (first | (with_reducible first | exact HB.out | apply below_alloc | apply pw_below_drewN | apply below_drew1 | refine below_set ?_ GE40001.out | refine below_set ?_ GE40002.out) | exact HB.out))) | (with_reducible refine Kd.C_alloc ?_ _) | (with_reducible refine Kd.C_drewN ?_ _) | (with_reducible refine Kd.C_drew ?_))); (case side4 => exact HC1_4.out); rintro e w' ⟨rfl, ⟨nd, rfl⟩⟩; (try first | exact ⟨rfl, _, World.drewN_drewN _ _ _⟩ | exact ⟨rfl, _, Eq.trans (World.drewN_drewN _ _ _) (congrArg (World.drewN _) (Nat.add_assoc _ _ _))⟩))))
            go_meet
            case rel => exact ⟨_, (true), (by first | rfl | (simp; done) | (simp [*]; done)), H', ⟨by first | omega | exact Nat.le_refl _⟩, ⟨by (with_reducible repeat (first | refine blk_drewN ?_ _ | refine blk_drew ?_ | refine blk_alloc ?_ _)); exact BK40001.out⟩, ⟨by (with_reducible repeat (first | refine blk_drewN ?_ _ | refine blk_drew ?_ | refine blk_alloc ?_ _)); exact BK40002.out⟩, ⟨by repeat (first | (with_reducible first | exact HB.out | apply below_alloc | apply pw_below_drewN | apply below_drew1 | refine below_set ?_ GE40001.out | refine below_set ?_ GE40002.out) | exact HB.out)⟩⟩
        · replace c9 := Bool.eq_false_iff.mpr c9
          subst c9
          have H1 : (tinderref08_SameNode.j0 k true a0_0 l0_1 a0_2 l0_3 l0_4 a1_0 l1_1 a1_2 l1_3 l1_4) = some r := by rw [if_neg (show ¬ (false = true) by decide)] at H; exact H
          clear H
          have H := H1
          clear H1
          have H' := Aside0.mk H
          clear H
          have hnb18 := NB40001_40002.out
          have hnc18 := NB40002_40001.out
          have hcz19_0 : w5.cell? ⟨gb40001, 0, none⟩ = some (.string a0_0) := (blk_cell BK40001.out 0).trans rfl
          have hcz19_1 : w5.cell? ⟨gb40001, 1, none⟩ = some (.slice A0_1 l0_1.length c0_1) := (blk_cell BK40001.out 1).trans rfl
          have hcz19_2 : w5.cell? ⟨gb40001, 2, none⟩ = some (.int .i64 a0_2) := (blk_cell BK40001.out 2).trans rfl
          have hcz19_3 : w5.cell? ⟨gb40001, 3, none⟩ = some (.slice A0_3 l0_3.length c0_3) := (blk_cell BK40001.out 3).trans rfl
          have hcz19_4 : w5.cell? ⟨gb40001, 4, none⟩ = some (.slice A0_4 l0_4.length c0_4) := (blk_cell BK40001.out 4).trans rfl
          have hfz19_0 := blk_frozen BK40001.out 0
          have hfz19_1 := blk_frozen BK40001.out 1
          have hfz19_2 := blk_frozen BK40001.out 2
          have hfz19_3 := blk_frozen BK40001.out 3
          have hfz19_4 := blk_frozen BK40001.out 4
          have hcz20_0 : w5.cell? ⟨gb40002, 0, none⟩ = some (.string a1_0) := (blk_cell BK40002.out 0).trans rfl
          have hcz20_1 : w5.cell? ⟨gb40002, 1, none⟩ = some (.slice A1_1 l1_1.length c1_1) := (blk_cell BK40002.out 1).trans rfl
          have hcz20_2 : w5.cell? ⟨gb40002, 2, none⟩ = some (.int .i64 a1_2) := (blk_cell BK40002.out 2).trans rfl
          have hcz20_3 : w5.cell? ⟨gb40002, 3, none⟩ = some (.slice A1_3 l1_3.length c1_3) := (blk_cell BK40002.out 3).trans rfl
          have hcz20_4 : w5.cell? ⟨gb40002, 4, none⟩ = some (.slice A1_4 l1_4.length c1_4) := (blk_cell BK40002.out 4).trans rfl
          have hfz20_0 := blk_frozen BK40002.out 0
          have hfz20_1 := blk_frozen BK40002.out 1
          have hfz20_2 := blk_frozen BK40002.out 2
          have hfz20_3 := blk_frozen BK40002.out 3
          have hfz20_4 := blk_frozen BK40002.out 4
          go_wp2_with (first | (go_at_call 26; (with_reducible refine (tinderref03_Same.calls k _ _ l0_1 _ _ l1_1 false _ ?side1 ?side2 ?side3 ?side4 A8.out).mono ?_); (case side1 => repeat (first | exact (Kd.C_below HR0_1.out HB.out) | (with_reducible refine Kd.C_alloc ?_ _) | (with_reducible refine Kd.C_drewN ?_ _) | (with_reducible refine Kd.C_drew ?_))); (case side2 => exact HC0_1.out); (case side3 => repeat (first | exact (Kd.C_below HR1_1.out HB.out) | (with_reducible refine Kd.C_alloc ?_ _) | (with_reducible refine Kd.C_drewN ?_ _) | (with_reducible refine Kd.C_drew ?_))); (case side4 => exact HC1_1.out); rintro e w' ⟨rfl, ⟨nd, rfl⟩⟩; (try first | exact ⟨rfl, _, World.drewN_drewN _ _ _⟩ | exact ⟨rfl, _, Eq.trans (World.drewN_drewN _ _ _) (congrArg (World.drewN _) (Nat.add_assoc _ _ _))⟩)))
          repeat (go_quiet (first | (go_at_call 26; (with_reducible refine (tinderref03_Same.calls k _ _ l0_1 _ _ l1_1 false _ ?side1 ?side2 ?side3 ?side4 A8.out).mono ?_); (case side1 => repeat (first | exact (Kd.C_below HR0_1.out HB.out) | (with_reducible refine Kd.C_alloc ?_ _) | (with_reducible refine Kd.C_drewN ?_ _) | (with_reducible refine Kd.C_drew ?_))); (case side2 => exact HC0_1.out); (case side3 => repeat (first | exact (Kd.C_below HR1_1.out HB.out) | (with_reducible refine Kd.C_alloc ?_ _) | (with_reducible refine Kd.C_drewN ?_ _) | (with_reducible refine Kd.C_drew ?_))); (case side4 => exact HC1_1.out); rintro e w' ⟨rfl, ⟨nd, rfl⟩⟩; (try first | exact ⟨rfl, _, World.drewN_drewN _ _ _⟩ | exact ⟨rfl, _, Eq.trans (World.drewN_drewN _ _ _) (congrArg (World.drewN _) (Nat.add_assoc _ _ _))⟩))); try go_wp2_with (first | (go_at_call 26; (with_reducible refine (tinderref03_Same.calls k _ _ l0_1 _ _ l1_1 false _ ?side1 ?side2 ?side3 ?side4 A8.out).mono ?_); (case side1 => repeat (first | exact (Kd.C_below HR0_1.out HB.out) | (with_reducible refine Kd.C_alloc ?_ _) | (with_reducible refine Kd.C_drewN ?_ _) | (with_reducible refine Kd.C_drew ?_))); (case side2 => exact HC0_1.out); (case side3 => repeat (first | exact (Kd.C_below HR1_1.out HB.out) | (with_reducible refine Kd.C_alloc ?_ _) | (with_reducible refine Kd.C_drewN ?_ _) | (with_reducible refine Kd.C_drew ?_))); (case side4 => exact HC1_1.out); rintro e w' ⟨rfl, ⟨nd, rfl⟩⟩; (try first | exact ⟨rfl, _, World.drewN_drewN _ _ _⟩ | exact ⟨rfl, _, Eq.trans (World.drewN_drewN _ _ _) (congrArg (World.drewN _) (Nat.add_assoc _ _ _))⟩))))
          go_meet
          case rel => exact ⟨_, (true), (by first | rfl | (simp; done) | (simp [*]; done)), H', ⟨by first | omega | exact Nat.le_refl _⟩, ⟨by (with_reducible repeat (first | refine blk_drewN ?_ _ | refine blk_drew ?_ | refine blk_alloc ?_ _)); exact BK40001.out⟩, ⟨by (with_reducible repeat (first | refine blk_drewN ?_ _ | refine blk_drew ?_ | refine blk_alloc ?_ _)); exact BK40002.out⟩, ⟨by repeat (first | (with_reducible first | exact HB.out | apply below_alloc | apply pw_below_drewN | apply below_drew1 | refine below_set ?_ GE40001.out | refine below_set ?_ GE40002.out) | exact HB.out)⟩⟩
      · rw [if_neg c7] at H
        have c7b0 : (a0_2 == a1_2) = false := beq_eq_false_iff_ne.mpr c7
        have c7b1 : (a0_2 != a1_2) = true := bne_iff_ne.mpr c7
        have H' := Aside0.mk H
        clear H
        have hnb21 := NB40001_40002.out
        have hnc21 := NB40002_40001.out
        have hcz22_0 : w5.cell? ⟨gb40001, 0, none⟩ = some (.string a0_0) := (blk_cell BK40001.out 0).trans rfl
        have hcz22_1 : w5.cell? ⟨gb40001, 1, none⟩ = some (.slice A0_1 l0_1.length c0_1) := (blk_cell BK40001.out 1).trans rfl
        have hcz22_2 : w5.cell? ⟨gb40001, 2, none⟩ = some (.int .i64 a0_2) := (blk_cell BK40001.out 2).trans rfl
        have hcz22_3 : w5.cell? ⟨gb40001, 3, none⟩ = some (.slice A0_3 l0_3.length c0_3) := (blk_cell BK40001.out 3).trans rfl
        have hcz22_4 : w5.cell? ⟨gb40001, 4, none⟩ = some (.slice A0_4 l0_4.length c0_4) := (blk_cell BK40001.out 4).trans rfl
        have hfz22_0 := blk_frozen BK40001.out 0
        have hfz22_1 := blk_frozen BK40001.out 1
        have hfz22_2 := blk_frozen BK40001.out 2
        have hfz22_3 := blk_frozen BK40001.out 3
        have hfz22_4 := blk_frozen BK40001.out 4
        have hcz23_0 : w5.cell? ⟨gb40002, 0, none⟩ = some (.string a1_0) := (blk_cell BK40002.out 0).trans rfl
        have hcz23_1 : w5.cell? ⟨gb40002, 1, none⟩ = some (.slice A1_1 l1_1.length c1_1) := (blk_cell BK40002.out 1).trans rfl
        have hcz23_2 : w5.cell? ⟨gb40002, 2, none⟩ = some (.int .i64 a1_2) := (blk_cell BK40002.out 2).trans rfl
        have hcz23_3 : w5.cell? ⟨gb40002, 3, none⟩ = some (.slice A1_3 l1_3.length c1_3) := (blk_cell BK40002.out 3).trans rfl
        have hcz23_4 : w5.cell? ⟨gb40002, 4, none⟩ = some (.slice A1_4 l1_4.length c1_4) := (blk_cell BK40002.out 4).trans rfl
        have hfz23_0 := blk_frozen BK40002.out 0
        have hfz23_1 := blk_frozen BK40002.out 1
        have hfz23_2 := blk_frozen BK40002.out 2
        have hfz23_3 := blk_frozen BK40002.out 3
        have hfz23_4 := blk_frozen BK40002.out 4
        go_wp2
        repeat (go_quiet (fail); try go_wp2)
        go_meet
        case rel => exact ⟨_, (true), (by first | rfl | (simp; done) | (simp [*]; done)), H', ⟨by first | omega | exact Nat.le_refl _⟩, ⟨by (with_reducible repeat (first | refine blk_drewN ?_ _ | refine blk_drew ?_ | refine blk_alloc ?_ _)); exact BK40001.out⟩, ⟨by (with_reducible repeat (first | refine blk_drewN ?_ _ | refine blk_drew ?_ | refine blk_alloc ?_ _)); exact BK40002.out⟩, ⟨by repeat (first | (with_reducible first | exact HB.out | apply below_alloc | apply pw_below_drewN | apply below_drew1 | refine below_set ?_ GE40001.out | refine below_set ?_ GE40002.out) | exact HB.out)⟩⟩
    · rw [if_neg c6] at H
      have c6b0 : (a0_0.toList == a1_0.toList) = false := beq_eq_false_iff_ne.mpr c6
      have c6b1 : (a0_0.toList != a1_0.toList) = true := bne_iff_ne.mpr c6
      (first | rw [c6b0] | (simp only [i64_w, i32_w]; rw [c6b0]) | skip)
      have H' := Aside0.mk H
      clear H
      have hnb24 := NB40001_40002.out
      have hnc24 := NB40002_40001.out
      have hcz25_0 : w5.cell? ⟨gb40001, 0, none⟩ = some (.string a0_0) := (blk_cell BK40001.out 0).trans rfl
      have hcz25_1 : w5.cell? ⟨gb40001, 1, none⟩ = some (.slice A0_1 l0_1.length c0_1) := (blk_cell BK40001.out 1).trans rfl
      have hcz25_2 : w5.cell? ⟨gb40001, 2, none⟩ = some (.int .i64 a0_2) := (blk_cell BK40001.out 2).trans rfl
      have hcz25_3 : w5.cell? ⟨gb40001, 3, none⟩ = some (.slice A0_3 l0_3.length c0_3) := (blk_cell BK40001.out 3).trans rfl
      have hcz25_4 : w5.cell? ⟨gb40001, 4, none⟩ = some (.slice A0_4 l0_4.length c0_4) := (blk_cell BK40001.out 4).trans rfl
      have hfz25_0 := blk_frozen BK40001.out 0
      have hfz25_1 := blk_frozen BK40001.out 1
      have hfz25_2 := blk_frozen BK40001.out 2
      have hfz25_3 := blk_frozen BK40001.out 3
      have hfz25_4 := blk_frozen BK40001.out 4
      have hcz26_0 : w5.cell? ⟨gb40002, 0, none⟩ = some (.string a1_0) := (blk_cell BK40002.out 0).trans rfl
      have hcz26_1 : w5.cell? ⟨gb40002, 1, none⟩ = some (.slice A1_1 l1_1.length c1_1) := (blk_cell BK40002.out 1).trans rfl
      have hcz26_2 : w5.cell? ⟨gb40002, 2, none⟩ = some (.int .i64 a1_2) := (blk_cell BK40002.out 2).trans rfl
      have hcz26_3 : w5.cell? ⟨gb40002, 3, none⟩ = some (.slice A1_3 l1_3.length c1_3) := (blk_cell BK40002.out 3).trans rfl
      have hcz26_4 : w5.cell? ⟨gb40002, 4, none⟩ = some (.slice A1_4 l1_4.length c1_4) := (blk_cell BK40002.out 4).trans rfl
      have hfz26_0 := blk_frozen BK40002.out 0
      have hfz26_1 := blk_frozen BK40002.out 1
      have hfz26_2 := blk_frozen BK40002.out 2
      have hfz26_3 := blk_frozen BK40002.out 3
      have hfz26_4 := blk_frozen BK40002.out 4
      go_wp2
      repeat (go_quiet (fail); try go_wp2)
      go_meet
      case rel => exact ⟨_, (true), (by first | rfl | (simp; done) | (simp [*]; done)), H', ⟨by first | omega | exact Nat.le_refl _⟩, ⟨by (with_reducible repeat (first | refine blk_drewN ?_ _ | refine blk_drew ?_ | refine blk_alloc ?_ _)); exact BK40001.out⟩, ⟨by (with_reducible repeat (first | refine blk_drewN ?_ _ | refine blk_drew ?_ | refine blk_alloc ?_ _)); exact BK40002.out⟩, ⟨by repeat (first | (with_reducible first | exact HB.out | apply below_alloc | apply pw_below_drewN | apply below_drew1 | refine below_set ?_ GE40001.out | refine below_set ?_ GE40002.out) | exact HB.out)⟩⟩
  case rest =>
    clear HC3
    try clear c1
    try clear c2
    try clear p2
    try clear c3
    try clear c6
    try clear c6b0
    try clear c6b1
    try clear c7
    try clear c7b0
    try clear c7b1
    try clear c9
    try clear c11
    try clear c12
    try clear c15
    try clear c18
    try clear c21
    try clear c24
    try clear hcz13_0
    try clear hcz13_1
    try clear hcz13_2
    try clear hcz13_3
    try clear hcz13_4
    try clear hcz14_0
    try clear hcz14_1
    try clear hcz14_2
    try clear hcz14_3
    try clear hcz14_4
    try clear hcz16_0
    try clear hcz16_1
    try clear hcz16_2
    try clear hcz16_3
    try clear hcz16_4
    try clear hcz17_0
    try clear hcz17_1
    try clear hcz17_2
    try clear hcz17_3
    try clear hcz17_4
    try clear hcz19_0
    try clear hcz19_1
    try clear hcz19_2
    try clear hcz19_3
    try clear hcz19_4
    try clear hcz20_0
    try clear hcz20_1
    try clear hcz20_2
    try clear hcz20_3
    try clear hcz20_4
    try clear hcz22_0
    try clear hcz22_1
    try clear hcz22_2
    try clear hcz22_3
    try clear hcz22_4
    try clear hcz23_0
    try clear hcz23_1
    try clear hcz23_2
    try clear hcz23_3
    try clear hcz23_4
    try clear hcz25_0
    try clear hcz25_1
    try clear hcz25_2
    try clear hcz25_3
    try clear hcz25_4
    try clear hcz26_0
    try clear hcz26_1
    try clear hcz26_2
    try clear hcz26_3
    try clear hcz26_4
    try clear hfz13_0
    try clear hfz13_1
    try clear hfz13_2
    try clear hfz13_3
    try clear hfz13_4
    try clear hfz14_0
    try clear hfz14_1
    try clear hfz14_2
    try clear hfz14_3
    try clear hfz14_4
    try clear hfz16_0
    try clear hfz16_1
    try clear hfz16_2
    try clear hfz16_3
    try clear hfz16_4
    try clear hfz17_0
    try clear hfz17_1
    try clear hfz17_2
    try clear hfz17_3
    try clear hfz17_4
    try clear hfz19_0
    try clear hfz19_1
    try clear hfz19_2
    try clear hfz19_3
    try clear hfz19_4
    try clear hfz20_0
    try clear hfz20_1
    try clear hfz20_2
    try clear hfz20_3
    try clear hfz20_4
    try clear hfz22_0
    try clear hfz22_1
    try clear hfz22_2
    try clear hfz22_3
    try clear hfz22_4
    try clear hfz23_0
    try clear hfz23_1
    try clear hfz23_2
    try clear hfz23_3
    try clear hfz23_4
    try clear hfz25_0
    try clear hfz25_1
    try clear hfz25_2
    try clear hfz25_3
    try clear hfz25_4
    try clear hfz26_0
    try clear hfz26_1
    try clear hfz26_2
    try clear hfz26_3
    try clear hfz26_4
    obtain ⟨kq, x42_2, rfl, HA, HJ2, BK40001, BK40002, HB⟩ := hcut
    cases kq with
    | zero => exact absurd HA.out (by simp [tinderref08_SameNode.j0])
    | succ kj2 =>
      have H := HA.out
      clear HA
      simp only [tinderref08_SameNode.j0] at H
      by_cases c27 : x42_2 = true
      · subst c27
        have H1 : (some false) = some r := by rw [if_pos rfl] at H; exact H
        clear H
        have H := H1
        clear H1
        obtain rfl := Option.some.inj H
        go_wp2
        repeat (go_quiet (fail); try go_wp2)
        go_ret
        exact ⟨by first | rfl | (simp [errW_none, errW_some] <;> rfl) | (simp [*, errW_none, errW_some] <;> rfl), by repeat (first | (with_reducible first | exact HB.out | apply below_alloc | apply pw_below_drewN | apply below_drew1 | refine below_set ?_ GE40001.out | refine below_set ?_ GE40002.out) | exact HB.out)⟩
      · replace c27 := Bool.eq_false_iff.mpr c27
        subst c27
        have H1 : (tinderref08_SameNode.l0 kj2 0 a0_0 l0_1 a0_2 l0_3 l0_4 a1_0 l1_1 a1_2 l1_3 l1_4) = some r := by rw [if_neg (show ¬ (false = true) by decide)] at H; exact H
        clear H
        have H := H1
        clear H1
        have H' := Aside0.mk H
        clear H
        go_wp2
        repeat (go_quiet (fail); try go_wp2)
        go_loopg [5] kj2 (fun kq v5 w' => ∃ (x5_2 : Int), v5 = .int .i64 x5_2 ∧ Aside0 (tinderref08_SameNode.l0 kq x5_2 a0_0 l0_1 a0_2 l0_3 l0_4 a1_0 l1_1 a1_2 l1_3 l1_4 = some r) ∧ Aside0 (kq ≤ kj2) ∧ Aside0 (w'.heap[gb40001]? = some (.cells #[.string a0_0, (.slice A0_1 l0_1.length c0_1), .int .i64 a0_2, (.slice A0_3 l0_3.length c0_3), (.slice A0_4 l0_4.length c0_4)] 44 (0, 0))) ∧ Aside0 (w'.heap[gb40002]? = some (.cells #[.string a1_0, (.slice A1_1 l1_1.length c1_1), .int .i64 a1_2, (.slice A1_3 l1_3.length c1_3), (.slice A1_4 l1_4.length c1_4)] 44 (0, 0))) ∧ Aside0 (Below w.heap.size w w'))
        case atStart => exact ⟨(0), (by first | rfl | (simp; done) | (simp [*]; done)), H', ⟨Nat.le_refl _⟩, ⟨by (with_reducible repeat (first | refine blk_drewN ?_ _ | refine blk_drew ?_ | refine blk_alloc ?_ _)); exact BK40001.out⟩, ⟨by (with_reducible repeat (first | refine blk_drewN ?_ _ | refine blk_drew ?_ | refine blk_alloc ?_ _)); exact BK40002.out⟩, ⟨by repeat (first | (with_reducible first | exact HB.out | apply below_alloc | apply pw_below_drewN | apply below_drew1 | refine below_set ?_ GE40001.out | refine below_set ?_ GE40002.out) | exact HB.out)⟩⟩
        case round =>
          clear H'
          try clear c1
          try clear c2
          try clear p2
          try clear c3
          try clear c6
          try clear c6b0
          try clear c6b1
          try clear c7
          try clear c7b0
          try clear c7b1
          try clear c9
          try clear c11
          try clear c12
          try clear c15
          try clear c18
          try clear c21
          try clear c24
          try clear c27
          try clear hcz13_0
          try clear hcz13_1
          try clear hcz13_2
          try clear hcz13_3
          try clear hcz13_4
          try clear hcz14_0
          try clear hcz14_1
          try clear hcz14_2
          try clear hcz14_3
          try clear hcz14_4
          try clear hcz16_0
          try clear hcz16_1
          try clear hcz16_2
          try clear hcz16_3
          try clear hcz16_4
          try clear hcz17_0
          try clear hcz17_1
          try clear hcz17_2
          try clear hcz17_3
          try clear hcz17_4
          try clear hcz19_0
          try clear hcz19_1
          try clear hcz19_2
          try clear hcz19_3
          try clear hcz19_4
          try clear hcz20_0
          try clear hcz20_1
          try clear hcz20_2
          try clear hcz20_3
          try clear hcz20_4
          try clear hcz22_0
          try clear hcz22_1
          try clear hcz22_2
          try clear hcz22_3
          try clear hcz22_4
          try clear hcz23_0
          try clear hcz23_1
          try clear hcz23_2
          try clear hcz23_3
          try clear hcz23_4
          try clear hcz25_0
          try clear hcz25_1
          try clear hcz25_2
          try clear hcz25_3
          try clear hcz25_4
          try clear hcz26_0
          try clear hcz26_1
          try clear hcz26_2
          try clear hcz26_3
          try clear hcz26_4
          try clear hfz13_0
          try clear hfz13_1
          try clear hfz13_2
          try clear hfz13_3
          try clear hfz13_4
          try clear hfz14_0
          try clear hfz14_1
          try clear hfz14_2
          try clear hfz14_3
          try clear hfz14_4
          try clear hfz16_0
          try clear hfz16_1
          try clear hfz16_2
          try clear hfz16_3
          try clear hfz16_4
          try clear hfz17_0
          try clear hfz17_1
          try clear hfz17_2
          try clear hfz17_3
          try clear hfz17_4
          try clear hfz19_0
          try clear hfz19_1
          try clear hfz19_2
          try clear hfz19_3
          try clear hfz19_4
          try clear hfz20_0
          try clear hfz20_1
          try clear hfz20_2
          try clear hfz20_3
          try clear hfz20_4
          try clear hfz22_0
          try clear hfz22_1
          try clear hfz22_2
          try clear hfz22_3
          try clear hfz22_4
          try clear hfz23_0
          try clear hfz23_1
          try clear hfz23_2
          try clear hfz23_3
          try clear hfz23_4
          try clear hfz25_0
          try clear hfz25_1
          try clear hfz25_2
          try clear hfz25_3
          try clear hfz25_4
          try clear hfz26_0
          try clear hfz26_1
          try clear hfz26_2
          try clear hfz26_3
          try clear hfz26_4
          try clear p2
          obtain ⟨x5_2, rfl, HA, HK2, BK40001, BK40002, HB⟩ := hrel
          cases gk with
          | zero => exact absurd HA.out (by simp [tinderref08_SameNode.l0])
          | succ k2 =>
            have H := HA.out
            clear HA
            simp only [tinderref08_SameNode.l0] at H
            by_cases c28 : x5_2 < (l0_3.length : Int)
            · rw [if_pos c28] at H
              have c28b0 : decide (x5_2 < (l0_3.length : Int)) = true := decide_eq_true c28
              clear c28
              by_cases c29 : 0 ≤ x5_2
              · rw [if_pos c29] at H
                have c29b0 : decide (0 ≤ x5_2) = true := decide_eq_true c29
                clear c29
                by_cases c30 : x5_2 < (l1_3.length : Int)
                · rw [if_pos c30] at H
                  have c30b0 : decide (x5_2 < (l1_3.length : Int)) = true := decide_eq_true c30
                  clear c30
                  by_cases c31 : ((rd_T53 l0_3 x5_2).f0).toList = ((rd_T53 l1_3 x5_2).f0).toList
                  · rw [if_pos c31] at H
                    have c31b0 : (((rd_T53 l0_3 x5_2).f0).toList == ((rd_T53 l1_3 x5_2).f0).toList) = true := beq_iff_eq.mpr c31
                    have c31b1 : (((rd_T53 l0_3 x5_2).f0).toList != ((rd_T53 l1_3 x5_2).f0).toList) = false := bne_eq_false_iff_eq.mpr c31
                    clear c31
                    replace H := Option.bind_eq_some_iff.mp H
                    obtain ⟨t40009, A320, H⟩ := H
                    replace H : (if t40009 = true then (tinderref08_SameNode.l0 k2 (wrap64 (x5_2 + 1)) a0_0 l0_1 a0_2 l0_3 l0_4 a1_0 l1_1 a1_2 l1_3 l1_4) else (some false)) = some r := H
                    have A32 := Aside0.mk A320
                    clear A320
                    by_cases c33 : t40009 = true
                    · subst c33
                      have H1 : (tinderref08_SameNode.l0 k2 (wrap64 (x5_2 + 1)) a0_0 l0_1 a0_2 l0_3 l0_4 a1_0 l1_1 a1_2 l1_3 l1_4) = some r := by rw [if_pos rfl] at H; exact H
                      clear H
                      have H := H1
                      clear H1
                      have H' := Aside0.mk H
                      clear H
                      have hnb34 := NB40001_40002.out
                      have hnc34 := NB40002_40001.out
                      have hcz35_0 : wr.cell? ⟨gb40001, 0, none⟩ = some (.string a0_0) := (blk_cell BK40001.out 0).trans rfl
                      have hcz35_1 : wr.cell? ⟨gb40001, 1, none⟩ = some (.slice A0_1 l0_1.length c0_1) := (blk_cell BK40001.out 1).trans rfl
                      have hcz35_2 : wr.cell? ⟨gb40001, 2, none⟩ = some (.int .i64 a0_2) := (blk_cell BK40001.out 2).trans rfl
                      have hcz35_3 : wr.cell? ⟨gb40001, 3, none⟩ = some (.slice A0_3 l0_3.length c0_3) := (blk_cell BK40001.out 3).trans rfl
                      have hcz35_4 : wr.cell? ⟨gb40001, 4, none⟩ = some (.slice A0_4 l0_4.length c0_4) := (blk_cell BK40001.out 4).trans rfl
                      have hfz35_0 := blk_frozen BK40001.out 0
                      have hfz35_1 := blk_frozen BK40001.out 1
                      have hfz35_2 := blk_frozen BK40001.out 2
                      have hfz35_3 := blk_frozen BK40001.out 3
                      have hfz35_4 := blk_frozen BK40001.out 4
                      have p40005 : 0 ≤ (x5_2 : Int) := of_decide_eq_true (by first | (with_reducible assumption) | assumption)
                      have q40005 : x5_2 < (l0_3.length : Int) := of_decide_eq_true (by first | (with_reducible assumption) | assumption)
                      obtain ⟨ad40005, A40005_1, c40005_1, e40005, hx40005_0, hx40005_1, hl40005_1, hi40005_1⟩ := at_T53 HR0_3.out x5_2 p40005 q40005
                      cases e40005
                      replace hx40005_0 := (HB.out.cell (World.block_lt_of_cell? w _ hx40005_0)).trans hx40005_0
                      replace hx40005_1 := (HB.out.cell (World.block_lt_of_cell? w _ hx40005_1)).trans hx40005_1
                      have HR40005_1 := Aside0.mk hi40005_1
                      have HC40005_1 := Aside0.mk hl40005_1
                      clear hi40005_1 hl40005_1
                      replace p40005 := eq_true p40005
                      replace q40005 := eq_true q40005
                      have hcz36_0 : wr.cell? ⟨gb40002, 0, none⟩ = some (.string a1_0) := (blk_cell BK40002.out 0).trans rfl
                      have hcz36_1 : wr.cell? ⟨gb40002, 1, none⟩ = some (.slice A1_1 l1_1.length c1_1) := (blk_cell BK40002.out 1).trans rfl
                      have hcz36_2 : wr.cell? ⟨gb40002, 2, none⟩ = some (.int .i64 a1_2) := (blk_cell BK40002.out 2).trans rfl
                      have hcz36_3 : wr.cell? ⟨gb40002, 3, none⟩ = some (.slice A1_3 l1_3.length c1_3) := (blk_cell BK40002.out 3).trans rfl
                      have hcz36_4 : wr.cell? ⟨gb40002, 4, none⟩ = some (.slice A1_4 l1_4.length c1_4) := (blk_cell BK40002.out 4).trans rfl
                      have hfz36_0 := blk_frozen BK40002.out 0
                      have hfz36_1 := blk_frozen BK40002.out 1
                      have hfz36_2 := blk_frozen BK40002.out 2
                      have hfz36_3 := blk_frozen BK40002.out 3
                      have hfz36_4 := blk_frozen BK40002.out 4
                      have p40006 : 0 ≤ (x5_2 : Int) := of_decide_eq_true (by first | (with_reducible assumption) | assumption)
                      have q40006 : x5_2 < (l1_3.length : Int) := of_decide_eq_true (by first | (with_reducible assumption) | assumption)
                      obtain ⟨ad40006, A40006_1, c40006_1, e40006, hx40006_0, hx40006_1, hl40006_1, hi40006_1⟩ := at_T53 HR1_3.out x5_2 p40006 q40006
                      cases e40006
                      replace hx40006_0 := (HB.out.cell (World.block_lt_of_cell? w _ hx40006_0)).trans hx40006_0
                      replace hx40006_1 := (HB.out.cell (World.block_lt_of_cell? w _ hx40006_1)).trans hx40006_1
                      have HR40006_1 := Aside0.mk hi40006_1
                      have HC40006_1 := Aside0.mk hl40006_1
                      clear hi40006_1 hl40006_1
                      replace p40006 := eq_true p40006
                      replace q40006 := eq_true q40006
                      have p40007 : 0 ≤ (x5_2 : Int) := of_decide_eq_true (by first | (with_reducible assumption) | assumption)
                      have q40007 : x5_2 < (l0_3.length : Int) := of_decide_eq_true (by first | (with_reducible assumption) | assumption)
                      obtain ⟨ad40007, A40007_1, c40007_1, e40007, hx40007_0, hx40007_1, hl40007_1, hi40007_1⟩ := at_T53 HR0_3.out x5_2 p40007 q40007
                      obtain rfl : ad40005 = ad40007 := (by injection e40007)
                      replace hx40007_0 := (HB.out.cell (World.block_lt_of_cell? w _ hx40007_0)).trans hx40007_0
                      replace hx40007_1 := (HB.out.cell (World.block_lt_of_cell? w _ hx40007_1)).trans hx40007_1
                      have HR40007_1 := Aside0.mk hi40007_1
                      have HC40007_1 := Aside0.mk hl40007_1
                      clear hi40007_1 hl40007_1
                      replace p40007 := eq_true p40007
                      replace q40007 := eq_true q40007
                      have ea_ := Option.some.inj (hx40005_1.symm.trans hx40007_1)
                      injection ea_ with ea_ en_ ec_
                      subst ea_
                      subst ec_
                      clear en_
                      have p40008 : 0 ≤ (x5_2 : Int) := of_decide_eq_true (by first | (with_reducible assumption) | assumption)
                      have q40008 : x5_2 < (l1_3.length : Int) := of_decide_eq_true (by first | (with_reducible assumption) | assumption)
                      obtain ⟨ad40008, A40008_1, c40008_1, e40008, hx40008_0, hx40008_1, hl40008_1, hi40008_1⟩ := at_T53 HR1_3.out x5_2 p40008 q40008
                      obtain rfl : ad40006 = ad40008 := (by injection e40008)
                      replace hx40008_0 := (HB.out.cell (World.block_lt_of_cell? w _ hx40008_0)).trans hx40008_0
                      replace hx40008_1 := (HB.out.cell (World.block_lt_of_cell? w _ hx40008_1)).trans hx40008_1
                      have HR40008_1 := Aside0.mk hi40008_1
                      have HC40008_1 := Aside0.mk hl40008_1
                      clear hi40008_1 hl40008_1
                      replace p40008 := eq_true p40008
                      replace q40008 := eq_true q40008
                      have ea_ := Option.some.inj (hx40006_1.symm.trans hx40008_1)
                      injection ea_ with ea_ en_ ec_
                      subst ea_
                      subst ec_
                      clear en_
                      go_wp2_with (first | (go_at_call 31; (with_reducible refine (tinderref04_Same.calls _ _ ((rd_T53 l0_3 x5_2).f1) _ _ ((rd_T53 l1_3 x5_2).f1) true _ ?side1 ?side2 ?side3 ?side4 A32.out).mono ?_); (case side1 => repeat (first | exact (Kd.C_below HR40007_1.out HB.out) | (with_reducible refine Kd.C_alloc ?_ _) | (with_reducible refine Kd.C_drewN ?_ _) | (with_reducible refine Kd.C_drew ?_))); (case side2 => exact HC40007_1.out); (case side3 => repeat (first | exact (Kd.C_below HR40008_1.out HB.out) | (with_reducible refine Kd.C_alloc ?_ _) | (with_reducible refine Kd.C_drewN ?_ _) | (with_reducible refine Kd.C_drew ?_))); (case side4 => exact HC40008_1.out); rintro e w' ⟨rfl, ⟨nd, rfl⟩⟩; (try first | exact ⟨rfl, _, World.drewN_drewN _ _ _⟩ | exact ⟨rfl, _, Eq.trans (World.drewN_drewN _ _ _) (congrArg (World.drewN _) (Nat.add_assoc _ _ _))⟩)))
                      repeat (go_quiet (first | (go_at_call 31; (with_reducible refine (tinderref04_Same.calls _ _ ((rd_T53 l0_3 x5_2).f1) _ _ ((rd_T53 l1_3 x5_2).f1) true _ ?side1 ?side2 ?side3 ?side4 A32.out).mono ?_); (case side1 => repeat (first | exact (Kd.C_below HR40007_1.out HB.out) | (with_reducible refine Kd.C_alloc ?_ _) | (with_reducible refine Kd.C_drewN ?_ _) | (with_reducible refine Kd.C_drew ?_))); (case side2 => exact HC40007_1.out); (case side3 => repeat (first | exact (Kd.C_below HR40008_1.out HB.out) | (with_reducible refine Kd.C_alloc ?_ _) | (with_reducible refine Kd.C_drewN ?_ _) | (with_reducible refine Kd.C_drew ?_))); (case side4 => exact HC40008_1.out); rintro e w' ⟨rfl, ⟨nd, rfl⟩⟩; (try first | exact ⟨rfl, _, World.drewN_drewN _ _ _⟩ | exact ⟨rfl, _, Eq.trans (World.drewN_drewN _ _ _) (congrArg (World.drewN _) (Nat.add_assoc _ _ _))⟩))); try go_wp2_with (first | (go_at_call 31; (with_reducible refine (tinderref04_Same.calls _ _ ((rd_T53 l0_3 x5_2).f1) _ _ ((rd_T53 l1_3 x5_2).f1) true _ ?side1 ?side2 ?side3 ?side4 A32.out).mono ?_); (case side1 => repeat (first | exact (Kd.C_below HR40007_1.out HB.out) | (with_reducible refine Kd.C_alloc ?_ _) | (with_reducible refine Kd.C_drewN ?_ _) | (with_reducible refine Kd.C_drew ?_))); (case side2 => exact HC40007_1.out); (case side3 => repeat (first | exact (Kd.C_below HR40008_1.out HB.out) | (with_reducible refine Kd.C_alloc ?_ _) | (with_reducible refine Kd.C_drewN ?_ _) | (with_reducible refine Kd.C_drew ?_))); (case side4 => exact HC40008_1.out); rintro e w' ⟨rfl, ⟨nd, rfl⟩⟩; (try first | exact ⟨rfl, _, World.drewN_drewN _ _ _⟩ | exact ⟨rfl, _, Eq.trans (World.drewN_drewN _ _ _) (congrArg (World.drewN _) (Nat.add_assoc _ _ _))⟩))))
                      go_roundg k2
                      case measure => have := HJ2.out; have := HK2.out; omega
                      case rel => exact ⟨(wrap64 (x5_2 + 1)), (by first | rfl | (simp; done) | (simp [*]; done)), H', ⟨by have := HJ2.out; have := HK2.out; omega⟩, ⟨by (with_reducible repeat (first | refine blk_drewN ?_ _ | refine blk_drew ?_ | refine blk_alloc ?_ _)); exact BK40001.out⟩, ⟨by (with_reducible repeat (first | refine blk_drewN ?_ _ | refine blk_drew ?_ | refine blk_alloc ?_ _)); exact BK40002.out⟩, ⟨by repeat (first | (with_reducible first | exact HB.out | apply below_alloc | apply pw_below_drewN | apply below_drew1 | refine below_set ?_ GE40001.out | refine below_set ?_ GE40002.out) | exact HB.out)⟩⟩
                    · replace c33 := Bool.eq_false_iff.mpr c33
                      subst c33
                      have H1 : (some false) = some r := by rw [if_neg (show ¬ (false = true) by decide)] at H; exact H
                      clear H
                      have H := H1
                      clear H1
                      obtain rfl := Option.some.inj H
                      have hnb37 := NB40001_40002.out
                      have hnc37 := NB40002_40001.out
                      have hcz38_0 : wr.cell? ⟨gb40001, 0, none⟩ = some (.string a0_0) := (blk_cell BK40001.out 0).trans rfl
                      have hcz38_1 : wr.cell? ⟨gb40001, 1, none⟩ = some (.slice A0_1 l0_1.length c0_1) := (blk_cell BK40001.out 1).trans rfl
                      have hcz38_2 : wr.cell? ⟨gb40001, 2, none⟩ = some (.int .i64 a0_2) := (blk_cell BK40001.out 2).trans rfl
                      have hcz38_3 : wr.cell? ⟨gb40001, 3, none⟩ = some (.slice A0_3 l0_3.length c0_3) := (blk_cell BK40001.out 3).trans rfl
                      have hcz38_4 : wr.cell? ⟨gb40001, 4, none⟩ = some (.slice A0_4 l0_4.length c0_4) := (blk_cell BK40001.out 4).trans rfl
                      have hfz38_0 := blk_frozen BK40001.out 0
                      have hfz38_1 := blk_frozen BK40001.out 1
                      have hfz38_2 := blk_frozen BK40001.out 2
                      have hfz38_3 := blk_frozen BK40001.out 3
                      have hfz38_4 := blk_frozen BK40001.out 4
                      have p40005 : 0 ≤ (x5_2 : Int) := of_decide_eq_true (by first | (with_reducible assumption) | assumption)
                      have q40005 : x5_2 < (l0_3.length : Int) := of_decide_eq_true (by first | (with_reducible assumption) | assumption)
                      obtain ⟨ad40005, A40005_1, c40005_1, e40005, hx40005_0, hx40005_1, hl40005_1, hi40005_1⟩ := at_T53 HR0_3.out x5_2 p40005 q40005
                      cases e40005
                      replace hx40005_0 := (HB.out.cell (World.block_lt_of_cell? w _ hx40005_0)).trans hx40005_0
                      replace hx40005_1 := (HB.out.cell (World.block_lt_of_cell? w _ hx40005_1)).trans hx40005_1
                      have HR40005_1 := Aside0.mk hi40005_1
                      have HC40005_1 := Aside0.mk hl40005_1
                      clear hi40005_1 hl40005_1
                      replace p40005 := eq_true p40005
                      replace q40005 := eq_true q40005
                      have hcz39_0 : wr.cell? ⟨gb40002, 0, none⟩ = some (.string a1_0) := (blk_cell BK40002.out 0).trans rfl
                      have hcz39_1 : wr.cell? ⟨gb40002, 1, none⟩ = some (.slice A1_1 l1_1.length c1_1) := (blk_cell BK40002.out 1).trans rfl
                      have hcz39_2 : wr.cell? ⟨gb40002, 2, none⟩ = some (.int .i64 a1_2) := (blk_cell BK40002.out 2).trans rfl
                      have hcz39_3 : wr.cell? ⟨gb40002, 3, none⟩ = some (.slice A1_3 l1_3.length c1_3) := (blk_cell BK40002.out 3).trans rfl
                      have hcz39_4 : wr.cell? ⟨gb40002, 4, none⟩ = some (.slice A1_4 l1_4.length c1_4) := (blk_cell BK40002.out 4).trans rfl
                      have hfz39_0 := blk_frozen BK40002.out 0
                      have hfz39_1 := blk_frozen BK40002.out 1
                      have hfz39_2 := blk_frozen BK40002.out 2
                      have hfz39_3 := blk_frozen BK40002.out 3
                      have hfz39_4 := blk_frozen BK40002.out 4
                      have p40006 : 0 ≤ (x5_2 : Int) := of_decide_eq_true (by first | (with_reducible assumption) | assumption)
                      have q40006 : x5_2 < (l1_3.length : Int) := of_decide_eq_true (by first | (with_reducible assumption) | assumption)
                      obtain ⟨ad40006, A40006_1, c40006_1, e40006, hx40006_0, hx40006_1, hl40006_1, hi40006_1⟩ := at_T53 HR1_3.out x5_2 p40006 q40006
                      cases e40006
                      replace hx40006_0 := (HB.out.cell (World.block_lt_of_cell? w _ hx40006_0)).trans hx40006_0
                      replace hx40006_1 := (HB.out.cell (World.block_lt_of_cell? w _ hx40006_1)).trans hx40006_1
                      have HR40006_1 := Aside0.mk hi40006_1
                      have HC40006_1 := Aside0.mk hl40006_1
                      clear hi40006_1 hl40006_1
                      replace p40006 := eq_true p40006
                      replace q40006 := eq_true q40006
                      have p40007 : 0 ≤ (x5_2 : Int) := of_decide_eq_true (by first | (with_reducible assumption) | assumption)
                      have q40007 : x5_2 < (l0_3.length : Int) := of_decide_eq_true (by first | (with_reducible assumption) | assumption)
                      obtain ⟨ad40007, A40007_1, c40007_1, e40007, hx40007_0, hx40007_1, hl40007_1, hi40007_1⟩ := at_T53 HR0_3.out x5_2 p40007 q40007
                      obtain rfl : ad40005 = ad40007 := (by injection e40007)
                      replace hx40007_0 := (HB.out.cell (World.block_lt_of_cell? w _ hx40007_0)).trans hx40007_0
                      replace hx40007_1 := (HB.out.cell (World.block_lt_of_cell? w _ hx40007_1)).trans hx40007_1
                      have HR40007_1 := Aside0.mk hi40007_1
                      have HC40007_1 := Aside0.mk hl40007_1
                      clear hi40007_1 hl40007_1
                      replace p40007 := eq_true p40007
                      replace q40007 := eq_true q40007
                      have ea_ := Option.some.inj (hx40005_1.symm.trans hx40007_1)
                      injection ea_ with ea_ en_ ec_
                      subst ea_
                      subst ec_
                      clear en_
                      have p40008 : 0 ≤ (x5_2 : Int) := of_decide_eq_true (by first | (with_reducible assumption) | assumption)
                      have q40008 : x5_2 < (l1_3.length : Int) := of_decide_eq_true (by first | (with_reducible assumption) | assumption)
                      obtain ⟨ad40008, A40008_1, c40008_1, e40008, hx40008_0, hx40008_1, hl40008_1, hi40008_1⟩ := at_T53 HR1_3.out x5_2 p40008 q40008
                      obtain rfl : ad40006 = ad40008 := (by injection e40008)
                      replace hx40008_0 := (HB.out.cell (World.block_lt_of_cell? w _ hx40008_0)).trans hx40008_0
                      replace hx40008_1 := (HB.out.cell (World.block_lt_of_cell? w _ hx40008_1)).trans hx40008_1
                      have HR40008_1 := Aside0.mk hi40008_1
                      have HC40008_1 := Aside0.mk hl40008_1
                      clear hi40008_1 hl40008_1
                      replace p40008 := eq_true p40008
                      replace q40008 := eq_true q40008
                      have ea_ := Option.some.inj (hx40006_1.symm.trans hx40008_1)
                      injection ea_ with ea_ en_ ec_
                      subst ea_
                      subst ec_
                      clear en_
                      go_wp2_with (first | (go_at_call 31; (with_reducible refine (tinderref04_Same.calls _ _ ((rd_T53 l0_3 x5_2).f1) _ _ ((rd_T53 l1_3 x5_2).f1) false _ ?side1 ?side2 ?side3 ?side4 A32.out).mono ?_); (case side1 => repeat (first | exact (Kd.C_below HR40007_1.out HB.out) | (with_reducible refine Kd.C_alloc ?_ _) | (with_reducible refine Kd.C_drewN ?_ _) | (with_reducible refine Kd.C_drew ?_))); (case side2 => exact HC40007_1.out); (case side3 => repeat (first | exact (Kd.C_below HR40008_1.out HB.out) | (with_reducible refine Kd.C_alloc ?_ _) | (with_reducible refine Kd.C_drewN ?_ _) | (with_reducible refine Kd.C_drew ?_))); (case side4 => exact HC40008_1.out); rintro e w' ⟨rfl, ⟨nd, rfl⟩⟩; (try first | exact ⟨rfl, _, World.drewN_drewN _ _ _⟩ | exact ⟨rfl, _, Eq.trans (World.drewN_drewN _ _ _) (congrArg (World.drewN _) (Nat.add_assoc _ _ _))⟩)))
                      repeat (go_quiet (first | (go_at_call 31; (with_reducible refine (tinderref04_Same.calls _ _ ((rd_T53 l0_3 x5_2).f1) _ _ ((rd_T53 l1_3 x5_2).f1) false _ ?side1 ?side2 ?side3 ?side4 A32.out).mono ?_); (case side1 => repeat (first | exact (Kd.C_below HR40007_1.out HB.out) | (with_reducible refine Kd.C_alloc ?_ _) | (with_reducible refine Kd.C_drewN ?_ _) | (with_reducible refine Kd.C_drew ?_))); (case side2 => exact HC40007_1.out); (case side3 => repeat (first | exact (Kd.C_below HR40008_1.out HB.out) | (with_reducible refine Kd.C_alloc ?_ _) | (with_reducible refine Kd.C_drewN ?_ _) | (with_reducible refine Kd.C_drew ?_))); (case side4 => exact HC40008_1.out); rintro e w' ⟨rfl, ⟨nd, rfl⟩⟩; (try first | exact ⟨rfl, _, World.drewN_drewN _ _ _⟩ | exact ⟨rfl, _, Eq.trans (World.drewN_drewN _ _ _) (congrArg (World.drewN _) (Nat.add_assoc _ _ _))⟩))); try go_wp2_with (first | (go_at_call 31; (with_reducible refine (tinderref04_Same.calls _ _ ((rd_T53 l0_3 x5_2).f1) _ _ ((rd_T53 l1_3 x5_2).f1) false _ ?side1 ?side2 ?side3 ?side4 A32.out).mono ?_); (case side1 => repeat (first | exact (Kd.C_below HR40007_1.out HB.out) | (with_reducible refine Kd.C_alloc ?_ _) | (with_reducible refine Kd.C_drewN ?_ _) | (with_reducible refine Kd.C_drew ?_))); (case side2 => exact HC40007_1.out); (case side3 => repeat (first | exact (Kd.C_below HR40008_1.out HB.out) | (with_reducible refine Kd.C_alloc ?_ _) | (with_reducible refine Kd.C_drewN ?_ _) | (with_reducible refine Kd.C_drew ?_))); (case side4 => exact HC40008_1.out); rintro e w' ⟨rfl, ⟨nd, rfl⟩⟩; (try first | exact ⟨rfl, _, World.drewN_drewN _ _ _⟩ | exact ⟨rfl, _, Eq.trans (World.drewN_drewN _ _ _) (congrArg (World.drewN _) (Nat.add_assoc _ _ _))⟩))))
                      go_ret
                      exact ⟨by first | rfl | (simp [errW_none, errW_some] <;> rfl) | (simp [*, errW_none, errW_some] <;> rfl), by repeat (first | (with_reducible first | exact HB.out | apply below_alloc | apply pw_below_drewN | apply below_drew1 | refine below_set ?_ GE40001.out | refine below_set ?_ GE40002.out) | exact HB.out)⟩
                  · rw [if_neg c31] at H
                    have c31b0 : (((rd_T53 l0_3 x5_2).f0).toList == ((rd_T53 l1_3 x5_2).f0).toList) = false := beq_eq_false_iff_ne.mpr c31
                    have c31b1 : (((rd_T53 l0_3 x5_2).f0).toList != ((rd_T53 l1_3 x5_2).f0).toList) = true := bne_iff_ne.mpr c31
                    obtain rfl := Option.some.inj H
                    have hnb40 := NB40001_40002.out
                    have hnc40 := NB40002_40001.out
                    have hcz41_0 : wr.cell? ⟨gb40001, 0, none⟩ = some (.string a0_0) := (blk_cell BK40001.out 0).trans rfl
                    have hcz41_1 : wr.cell? ⟨gb40001, 1, none⟩ = some (.slice A0_1 l0_1.length c0_1) := (blk_cell BK40001.out 1).trans rfl
                    have hcz41_2 : wr.cell? ⟨gb40001, 2, none⟩ = some (.int .i64 a0_2) := (blk_cell BK40001.out 2).trans rfl
                    have hcz41_3 : wr.cell? ⟨gb40001, 3, none⟩ = some (.slice A0_3 l0_3.length c0_3) := (blk_cell BK40001.out 3).trans rfl
                    have hcz41_4 : wr.cell? ⟨gb40001, 4, none⟩ = some (.slice A0_4 l0_4.length c0_4) := (blk_cell BK40001.out 4).trans rfl
                    have hfz41_0 := blk_frozen BK40001.out 0
                    have hfz41_1 := blk_frozen BK40001.out 1
                    have hfz41_2 := blk_frozen BK40001.out 2
                    have hfz41_3 := blk_frozen BK40001.out 3
                    have hfz41_4 := blk_frozen BK40001.out 4
                    have p40005 : 0 ≤ (x5_2 : Int) := of_decide_eq_true (by first | (with_reducible assumption) | assumption)
                    have q40005 : x5_2 < (l0_3.length : Int) := of_decide_eq_true (by first | (with_reducible assumption) | assumption)
                    obtain ⟨ad40005, A40005_1, c40005_1, e40005, hx40005_0, hx40005_1, hl40005_1, hi40005_1⟩ := at_T53 HR0_3.out x5_2 p40005 q40005
                    cases e40005
                    replace hx40005_0 := (HB.out.cell (World.block_lt_of_cell? w _ hx40005_0)).trans hx40005_0
                    replace hx40005_1 := (HB.out.cell (World.block_lt_of_cell? w _ hx40005_1)).trans hx40005_1
                    have HR40005_1 := Aside0.mk hi40005_1
                    have HC40005_1 := Aside0.mk hl40005_1
                    clear hi40005_1 hl40005_1
                    replace p40005 := eq_true p40005
                    replace q40005 := eq_true q40005
                    have hcz42_0 : wr.cell? ⟨gb40002, 0, none⟩ = some (.string a1_0) := (blk_cell BK40002.out 0).trans rfl
                    have hcz42_1 : wr.cell? ⟨gb40002, 1, none⟩ = some (.slice A1_1 l1_1.length c1_1) := (blk_cell BK40002.out 1).trans rfl
                    have hcz42_2 : wr.cell? ⟨gb40002, 2, none⟩ = some (.int .i64 a1_2) := (blk_cell BK40002.out 2).trans rfl
                    have hcz42_3 : wr.cell? ⟨gb40002, 3, none⟩ = some (.slice A1_3 l1_3.length c1_3) := (blk_cell BK40002.out 3).trans rfl
                    have hcz42_4 : wr.cell? ⟨gb40002, 4, none⟩ = some (.slice A1_4 l1_4.length c1_4) := (blk_cell BK40002.out 4).trans rfl
                    have hfz42_0 := blk_frozen BK40002.out 0
                    have hfz42_1 := blk_frozen BK40002.out 1
                    have hfz42_2 := blk_frozen BK40002.out 2
                    have hfz42_3 := blk_frozen BK40002.out 3
                    have hfz42_4 := blk_frozen BK40002.out 4
                    have p40006 : 0 ≤ (x5_2 : Int) := of_decide_eq_true (by first | (with_reducible assumption) | assumption)
                    have q40006 : x5_2 < (l1_3.length : Int) := of_decide_eq_true (by first | (with_reducible assumption) | assumption)
                    obtain ⟨ad40006, A40006_1, c40006_1, e40006, hx40006_0, hx40006_1, hl40006_1, hi40006_1⟩ := at_T53 HR1_3.out x5_2 p40006 q40006
                    cases e40006
                    replace hx40006_0 := (HB.out.cell (World.block_lt_of_cell? w _ hx40006_0)).trans hx40006_0
                    replace hx40006_1 := (HB.out.cell (World.block_lt_of_cell? w _ hx40006_1)).trans hx40006_1
                    have HR40006_1 := Aside0.mk hi40006_1
                    have HC40006_1 := Aside0.mk hl40006_1
                    clear hi40006_1 hl40006_1
                    replace p40006 := eq_true p40006
                    replace q40006 := eq_true q40006
                    go_wp2
                    repeat (go_quiet (fail); try go_wp2)
                    go_ret
                    exact ⟨by first | rfl | (simp [errW_none, errW_some] <;> rfl) | (simp [*, errW_none, errW_some] <;> rfl), by repeat (first | (with_reducible first | exact HB.out | apply below_alloc | apply pw_below_drewN | apply below_drew1 | refine below_set ?_ GE40001.out | refine below_set ?_ GE40002.out) | exact HB.out)⟩
                · rw [if_neg c30] at H
                  exact absurd H (by simp)
              · rw [if_neg c29] at H
                exact absurd H (by simp)
            · rw [if_neg c28] at H
              have c28b0 : decide (x5_2 < (l0_3.length : Int)) = false := decide_eq_false c28
              clear c28
              obtain rfl := Option.some.inj H
              have hnb43 := NB40001_40002.out
              have hnc43 := NB40002_40001.out
              have hcz44_0 : wr.cell? ⟨gb40001, 0, none⟩ = some (.string a0_0) := (blk_cell BK40001.out 0).trans rfl
              have hcz44_1 : wr.cell? ⟨gb40001, 1, none⟩ = some (.slice A0_1 l0_1.length c0_1) := (blk_cell BK40001.out 1).trans rfl
              have hcz44_2 : wr.cell? ⟨gb40001, 2, none⟩ = some (.int .i64 a0_2) := (blk_cell BK40001.out 2).trans rfl
              have hcz44_3 : wr.cell? ⟨gb40001, 3, none⟩ = some (.slice A0_3 l0_3.length c0_3) := (blk_cell BK40001.out 3).trans rfl
              have hcz44_4 : wr.cell? ⟨gb40001, 4, none⟩ = some (.slice A0_4 l0_4.length c0_4) := (blk_cell BK40001.out 4).trans rfl
              have hfz44_0 := blk_frozen BK40001.out 0
              have hfz44_1 := blk_frozen BK40001.out 1
              have hfz44_2 := blk_frozen BK40001.out 2
              have hfz44_3 := blk_frozen BK40001.out 3
              have hfz44_4 := blk_frozen BK40001.out 4
              go_wp2
              repeat (go_quiet (fail); try go_wp2)
              go_ret
              exact ⟨by first | rfl | (simp [errW_none, errW_some] <;> rfl) | (simp [*, errW_none, errW_some] <;> rfl), by repeat (first | (with_reducible first | exact HB.out | apply below_alloc | apply pw_below_drewN | apply below_drew1 | refine below_set ?_ GE40001.out | refine below_set ?_ GE40002.out) | exact HB.out)⟩

end Go.Proofs.YtnalcjgefbelnaaDoor.Q
end
section
namespace Go.Proofs.YtnalcjgefbelnaaDoor.Q
open Go.RowKit Go.Proofs.YtnalcjgefbelnaaDoorW.PrintWords Go.Proofs.YtnalcjgefbelnaaDoorW.PrintLast Go.Proofs.YtnalcjgefbelnaaDoorW.PrintMore
set_option linter.unusedVariables false
set_option linter.unusedSimpArgs false

attribute [local go_sem] max2_int min2_int max_two min_two max_three min_three max_four min_four
/-! ### tinderref08_Same: function 14 -/
def tinderref08_Same.l0 : Nat → List (S44) → List (S44) → Int → Option (Bool)
  | 0, _, _, _ => none
  | k + 1, x0, x1, x5 => if x5 < (x0.length : Int) then (if 0 ≤ x5 then (if x5 < (x1.length : Int) then ((tinderref08_SameNode.f k ((rd_T44 x0 x5).f0) ((rd_T44 x0 x5).f1) ((rd_T44 x0 x5).f2) ((rd_T44 x0 x5).f3) ((rd_T44 x0 x5).f4) ((rd_T44 x1 x5).f0) ((rd_T44 x1 x5).f1) ((rd_T44 x1 x5).f2) ((rd_T44 x1 x5).f3) ((rd_T44 x1 x5).f4)).bind fun t15003 => (if t15003 = true then (tinderref08_Same.l0 k x0 x1 (wrap64 (x5 + 1))) else (some false))) else (none)) else (none)) else (some true)
def tinderref08_Same.f (k : Nat) (l0 : List (S44)) (l1 : List (S44)) : Option (Bool) := if (l0.length : Int) = (l1.length : Int) then (tinderref08_Same.l0 k l0 l1 0) else (some false)
def tinderref08_Same.T6 : Bool × List (List Nat × List Nat) := (true, [([], []), ([], []), ([0, 1], [0, 1]), ([2], [2]), ([], []), ([], []), ([4, 5], [4, 5]), ([6], [6]), ([3, 7], [3, 7]), ([8], [8])])
def tinderref08_Same.B6 : List Nat := [0, 0, 3, 7, 0, 0, 48, 112, 255, 511]

end Go.Proofs.YtnalcjgefbelnaaDoor.Q
end
section
set_option linter.unusedSimpArgs false
set_option linter.unusedVariables false
namespace Go.Proofs.YtnalcjgefbelnaaDoor.Q
open Go.RowKit Go.Proofs.YtnalcjgefbelnaaDoorW.PrintWords Go.Proofs.YtnalcjgefbelnaaDoorW.PrintLast
theorem same3_go (a b : List Int) (hl : a.length = b.length) (hm : a.length ≤ 9223372036854775807) : ∀ (d k : Nat) (i : Int), 0 ≤ i → i + d = a.length → d < k → tinderref03_Same.l0 k a b i = some (decide (a.drop i.toNat = b.drop i.toNat))
  | 0, k, i, h0, h1, hk => by
    obtain ⟨k, rfl⟩ : ∃ m, k = m + 1 := ⟨k - 1, by omega⟩
    rw [tinderref03_Same.l0, if_neg (by omega), List.drop_eq_nil_of_le (by omega), List.drop_eq_nil_of_le (by omega), decide_eq_true rfl]
  | d + 1, k, i, h0, h1, hk => by
    obtain ⟨k, rfl⟩ : ∃ m, k = m + 1 := ⟨k - 1, by omega⟩
    have hw : wrap64 (i + 1) = i + 1 := by unfold wrap64; omega
    rw [tinderref03_Same.l0, if_pos (by omega), if_pos h0, if_pos (by omega), hw, same3_go a b hl hm d k (i + 1) (by omega) (by omega) (by omega), int_drop a i h0 (by omega), int_drop b i h0 (by omega)]
    by_cases he : rd a i = rd b i
    · rw [if_pos he]
      congr 1
      refine decide_eq_decide.2 ⟨fun h => by rw [he, h], fun h => (List.cons.inj h).2⟩
    · rw [if_neg he, decide_eq_false (fun h => he (List.cons.inj h).1)]
theorem same3_eq (a b : List Int) (hm : a.length ≤ 9223372036854775807) (k : Nat) (hk : a.length < k) : tinderref03_Same.f k a b = some (decide (a = b)) := by
  unfold tinderref03_Same.f
  by_cases hl : a.length = b.length
  · rw [if_pos (by omega), same3_go a b hl hm a.length k 0 (Int.le_refl _) (by omega) hk]
    rfl
  · rw [if_neg (by omega), decide_eq_false (fun h => hl (by rw [h]))]
def nodeR (t : List S44) (i : Nat) : Bool := (!decide (16 < ((t.getD i z44).f4.length : Int)) && propsF (t.getD i z44).f3) && (if (i : Int) == 0 then true else kidOk (t.take i) i (t.getD i z44))
end Go.Proofs.YtnalcjgefbelnaaDoor.Q
end
section
set_option linter.unusedSimpArgs false
set_option linter.unusedVariables false
namespace Go.Proofs.YtnalcjgefbelnaaDoor.Q
open Go.RowKit Go.Proofs.YtnalcjgefbelnaaDoorW.PrintWords Go.Proofs.YtnalcjgefbelnaaDoorW.PrintLast
theorem same4_self (x : List Int) : tinderref04_Same.f x x = some true := by
  unfold tinderref04_Same.f
  rw [beq_self_eq_true]
theorem sameprops_go (n : ByteArray) (u : List Int) (p : Int) (l : List S53) (ce : List Int) (hl : l.length ≤ 1000000000000000) : ∀ (d k : Nat) (i : Int), 0 ≤ i → i + d = l.length → d < k → tinderref08_SameNode.l0 k i n u p l ce n u p l ce = some true
  | 0, k, i, h0, h1, hk => by
    obtain ⟨k, rfl⟩ : ∃ m, k = m + 1 := ⟨k - 1, by omega⟩
    rw [tinderref08_SameNode.l0, if_neg (by omega)]
  | d + 1, k, i, h0, h1, hk => by
    obtain ⟨k, rfl⟩ : ∃ m, k = m + 1 := ⟨k - 1, by omega⟩
    have hw : wrap64 (i + 1) = i + 1 := by unfold wrap64; omega
    rw [tinderref08_SameNode.l0, if_pos (by omega), if_pos h0, if_pos (by omega), if_pos rfl, same4_self, Option.bind_some, if_pos rfl, hw]
    exact sameprops_go n u p l ce hl d k (i + 1) (by omega) (by omega) (by omega)
/-- Lists of a device that are no longer than B. -/
def LenN (B : Nat) (x : S44) : Prop := x.f1.length ≤ B ∧ x.f4.length ≤ B ∧ x.f3.length ≤ B
theorem samenode_eq (x : S44) (B : Nat) (hB : B ≤ 1000000000000000) (h : LenN B x) (k : Nat) (hk : B + 3 ≤ k) : tinderref08_SameNode.f k x.f0 x.f1 x.f2 x.f3 x.f4 x.f0 x.f1 x.f2 x.f3 x.f4 = some true := by
  obtain ⟨k, rfl⟩ : ∃ m, k = m + 1 := ⟨k - 1, by omega⟩
  obtain ⟨h1, h4, h3⟩ := h
  unfold tinderref08_SameNode.f
  rw [if_pos rfl, if_pos rfl, same3_eq _ _ (by omega) _ (by omega), Option.bind_some, decide_eq_true rfl, if_pos rfl, same3_eq _ _ (by omega) _ (by omega), Option.bind_some, decide_eq_true rfl, if_pos rfl, tinderref08_SameNode.j0, show ((x.f3.length : Int) != (x.f3.length : Int)) = false by simp, if_neg (by decide)]
  exact sameprops_go _ _ _ _ _ (by omega) x.f3.length k 0 (Int.le_refl _) (by omega) (by omega)
end Go.Proofs.YtnalcjgefbelnaaDoor.Q
end
section
namespace Go.Proofs.YtnalcjgefbelnaaDoor.Q
open Go.RowKit Go.Proofs.YtnalcjgefbelnaaDoorW.PrintWords Go.Proofs.YtnalcjgefbelnaaDoorW.PrintLast Go.Proofs.YtnalcjgefbelnaaDoorW.PrintMore
set_option linter.unusedVariables false
set_option linter.unusedSimpArgs false

attribute [local go_sem] max2_int min2_int max_two min_two max_three min_three max_four min_four
/-! ### tinderref03_Copy: function 51 -/
def tinderref03_Copy.f (l0 : List Int) : Option (List Int) := if ([] : List Int).length + l0.length < 35184372088832 then (some (([] : List Int) ++ l0)) else (none)

end Go.Proofs.YtnalcjgefbelnaaDoor.Q
end
