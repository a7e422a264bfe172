/- Contracts of Go functions and plain facts, of several texts, one behind the other; no condition. -/
import Derived.Test.YtnalcjgefbelnaaDoorMTreeSets6
import Derived.Test.YtnalcjgefbelnaaDoorMTreeSets7
import Derived.Test.YtnalcjgefbelnaaDoorMTreeSets5
import Derived.Test.YtnalcjgefbelnaaDoorMTreeSets2
import Derived.Shelf.Strings.Builder1
import Derived.Shelf.Strings.Builder2
import Derived.Shelf.Strings.OnBuilder
import Derived.Test.YtnalcjgefbelnaaDoorProg
import Derived.Lib.Strings
import Derived.Lib.ItoaNum
import Derived.Test.YtnalcjgefbelnaaDoorMTreeSets3
section
set_option linter.unusedSimpArgs false
set_option linter.unusedVariables false
namespace Go.Proofs.YtnalcjgefbelnaaDoor.Q
open Go.RowKit Go.Proofs.YtnalcjgefbelnaaDoorW.PrintWords Go.Proofs.YtnalcjgefbelnaaDoorW.PrintLast Go.Proofs.YtnalcjgefbelnaaDoorW.PrintMore
attribute [local go_sem] max2_int min2_int max_two min_two max_three min_three max_four min_four
theorem event_stepS {P : Program} {ops : Array Oper} {o : Oper} {a : Act} {Q : Exit → Act → World → Prop} {Kc : Act → World → Prop} {N : Option Tmp} {W w1 : World} {v : Value} (hw : Region.wanted o (yielded ops a.tmps) = true) (hN : o.dst = N) (hrun : (execOp a.eval o).run P W = .ok (.value v) w1) (h : Kc (a.put N v) w1) :
  if Region.wanted o (yielded ops a.tmps) = true then Oper.wp P o a W Kc Q else Kc (a.put N undef) W := by
 subst hN
 exact event_step hw hrun h
def goodNS (x : S44) : Bool := decide (x.f1.length < 35184372088832) && (decide (x.f4.length < 35184372088832) && (decide (x.f3.length < 3518437208883) && x.f3.all fun p => decide (p.f1.length < 140737488355328)))
def goodTS (t : List S44) : Bool := decide (t.length < 1466015503701) && t.all goodNS
theorem goodTS_iff {t : List S44} : goodTS t = true ↔ GoodT t := by
 simp only [goodTS, goodNS, GoodT, GoodN, Bool.and_eq_true, decide_eq_true_eq, List.all_eq_true]
def tinderref08_Set.f (l0 : List S44) (a1 : Int) (a2 : ByteArray) (l3 : List Int) : Option (List S44 × Int) := if goodTS l0 = true then tree_Set.f l0 a1 a2 l3 else none
set_option maxHeartbeats 16000000 in
set_option maxRecDepth 100000 in
theorem tinderref08_Set.calls (A0 : Option Addr) (c0 : Nat) (l0 : List S44) (a1 : Int) (a2 : ByteArray) (A3 : Option Addr) (c3 : Nat) (l3 : List Int) (r1 : List S44) (r2 : Int) (w : World) (hr0 : Kd.C k44 w A0 l0.length l0) (hc0 : l0.length ≤ c0) (hr3 : Kd.C (Kd.int .u8) w A3 l3.length l3) (hc3 : l3.length ≤ c3) (h : tinderref08_Set.f l0 a1 a2 l3 = some (r1, r2)) :
  Calls Tryd.prog 36 #[.slice A0 l0.length c0, .int .i64 a1, .string a2, .slice A3 l3.length c3] w fun e w' => ∃ v0_ : Value, e = .returned (.tuple #[v0_, .int .i64 r2]) ∧ Kd.R k44 44 w' w.heap.size (fun _ => True) v0_ r1 ∧ Below w.heap.size w w' := by
 have mixed : Tryd.prog.follows Departure.mixedOrders = true := by kernel_rfl
 have hu44 := Tryd.underlying44
 have hu53 := Tryd.underlying53
 unfold tinderref08_Set.f at h
 split at h
 case isFalse => cases h
 rename_i hgd
 have hG := goodTS_iff.1 hgd
 unfold tree_Set.f at h
 obtain ⟨e0, E1, H⟩ := Option.bind_eq_some_iff.mp h
 clear h
 have HNM := Aside0.mk (fun (W : World) => tinderref05_Named.calls 400 a2 (namedF a2) W (refnamed_eq 400 (by decide) a2))
 have HC0 := Aside0.mk hr0
 have HK0 := Aside0.mk hc0
 have HC3 := Aside0.mk hr3
 have HK3 := Aside0.mk hc3
 have HWR := Aside0.mk (tinderref08_wrong.calls 1000000000000000000000000000000 A0 c0 l0 a1 e0 w hr0 hc0 (by rw [wrong_eq hG a1 _ (Nat.le_refl _)]; exact E1))
 have HCP := Aside0.mk (refCopy_eq hG _ (Nat.le_refl _))
 by_cases he : e0 = 0
 ·subst he
  rw [if_pos rfl] at H
  obtain ⟨h0, h1⟩ := check_in E1
  obtain ⟨i, rfl⟩ : ∃ i : Nat, a1 = (i : Int) := ⟨a1.toNat, by omega⟩
  have HIL := Aside0.mk (show i < l0.length by omega)
  have hpr := idxP_range (isP a2) (rd_T44 l0 (i : Int)).f3
  have HPR := Aside0.mk (show -1 ≤ plcF l0 (i : Int) a2 ∧ plcF l0 (i : Int) a2 < (rd_T44 l0 (i : Int)).f3.length from hpr)
  have hp16 : (rd_T44 l0 (i : Int)).f3.length ≤ 16 := by
   have h := node_props (check_form E1) (i : Int) h0 h1
   unfold propsF at h
   simp only [Bool.and_eq_true, decide_eq_true_eq] at h
   exact h.1
  have H16 := Aside0.mk hp16
  have p1 : (0 ≤ (i : Int)) = True := eq_true h0
  have p2 : ((i : Int) < (l0.length : Int)) = True := eq_true h1
  have p3 : (i < l0.length) = True := eq_true HIL.out
  obtain ⟨adz, D1, d1, D3, d3, D4, d4, eA, -, -, -, hz3, -, -, -, hkz, hgz, -, -⟩ := at_T44 hr0 (i : Int) h0 h1
  cases eA
  rw [Int.toNat_natCast] at hz3
  have HZ3 := Aside0.mk hz3
  have HFN := Aside0.mk (fun (W : World) (hb : Below w.heap.size w W) => tinderref08_find.calls 1000 D3 d3 (rd_T44 l0 (i : Int)).f3 a2 (plcF l0 (i : Int) a2) W (Kd.C_below hgz hb) hkz (pfind_eq _ a2 (by omega) 1000 (by omega)))
  clear hr0 hc0 hr3 hc3 E1 hpr h0 h1 hz3 hgd hG hgz hkz
  cases hn : namedF a2
  ·rw [if_neg (by rw [hn]; decide)] at H
   simp only [Option.some.injEq, Prod.mk.injEq] at H
   obtain ⟨rfl, rfl⟩ := H
   rw [hn] at HNM
   clear hn hp16
   go_enter Tryd.func36, Tryd.ntmps36
   go_wp2_with (first
    | (go_at_call 54; (with_reducible refine HWR.out.mono ?_); rintro e w1 ⟨rfl, hb⟩; have HB := Aside0.mk hb; clear hb; have hz3 := (HB.out.cell (World.block_lt_of_cell? _ _ HZ3.out)).trans HZ3.out)
    | (go_at_call 44; (with_reducible refine (HNM.out _).mono ?_); rintro e w2 ⟨rfl, hd⟩; have hb := hd.below; replace HB := Aside0.mk (below_step HB.out hb); have hz3n := (hb.cell (World.block_lt_of_cell? _ _ hz3)).trans hz3; clear hb hd hz3))
   go_ret2
   exact ⟨_, rfl, Kd.R_nil _ _ _ _ _, HB.out⟩
  ·rw [if_pos hn] at H
   rw [hn] at HNM
   clear hn
   by_cases h4 : (256 : Int) < (l3.length : Int)
   ·rw [if_pos h4] at H
    simp only [Option.some.injEq, Prod.mk.injEq] at H
    obtain ⟨rfl, rfl⟩ := H
    have d4 : decide ((256 : Int) < (l3.length : Int)) = true := decide_eq_true h4
    clear h4 hp16
    go_enter Tryd.func36, Tryd.ntmps36
    go_wp2_with (first
     | (go_at_call 54; (with_reducible refine HWR.out.mono ?_); rintro e w1 ⟨rfl, hb⟩; have HB := Aside0.mk hb; clear hb; have hz3 := (HB.out.cell (World.block_lt_of_cell? _ _ HZ3.out)).trans HZ3.out)
     | (go_at_call 44; (with_reducible refine (HNM.out _).mono ?_); rintro e w2 ⟨rfl, hd⟩; have hb := hd.below; replace HB := Aside0.mk (below_step HB.out hb); have hz3n := (hb.cell (World.block_lt_of_cell? _ _ hz3)).trans hz3; clear hb hd hz3))
    go_ret2
    exact ⟨_, rfl, Kd.R_nil _ _ _ _ _, HB.out⟩
   ·rw [if_neg h4] at H
    have d4 : decide ((256 : Int) < (l3.length : Int)) = false := decide_eq_false h4
    have HCL := Aside0.mk (fun (W : World) (hb : Below w.heap.size w W) => tinderref04_Copy.calls A3 c3 l3 l3 W (Kd.C_below HC3.out hb) HK3.out (copy4_eq l3 (by omega)))
    clear h4
    by_cases hp : plcF l0 (i : Int) a2 < 0
    ·have dp : decide (plcF l0 (i : Int) a2 < 0) = true := decide_eq_true hp
     by_cases h16 : ((rd_T44 l0 (i : Int)).f3.length : Int) = 16
     ·rw [if_pos ⟨hp, h16⟩] at H
      simp only [Option.some.injEq, Prod.mk.injEq] at H
      obtain ⟨rfl, rfl⟩ := H
      have d16 : decide ((16 : Int) ≤ ((rd_T44 l0 (i : Int)).f3.length : Int)) = true := decide_eq_true (by omega)
      have d16N : decide (16 ≤ (rd_T44 l0 (i : Int)).f3.length) = true := decide_eq_true (by omega)
      clear hp h16 hp16
      go_enter Tryd.func36, Tryd.ntmps36
      go_wp2_with (first
       | (go_at_call 54; (with_reducible refine HWR.out.mono ?_); rintro e w1 ⟨rfl, hb⟩; have HB := Aside0.mk hb; clear hb; have hz3 := (HB.out.cell (World.block_lt_of_cell? _ _ HZ3.out)).trans HZ3.out)
       | (go_at_call 44; (with_reducible refine (HNM.out _).mono ?_); rintro e w2 ⟨rfl, hd⟩; have hb := hd.below; replace HB := Aside0.mk (below_step HB.out hb); have hz3n := (hb.cell (World.block_lt_of_cell? _ _ hz3)).trans hz3; clear hb hd hz3)
       | (go_at_call 46; (with_reducible refine (HFN.out _ HB.out).mono ?_); rintro e w3 ⟨rfl, hd⟩; have hb := hd.below; replace HB := Aside0.mk (below_step HB.out hb); have hz3f := (hb.cell (World.block_lt_of_cell? _ _ hz3n)).trans hz3n; clear hb hd hz3n))
      go_ret2
      exact ⟨_, rfl, Kd.R_nil _ _ _ _ _, HB.out⟩
     ·rw [if_neg (fun h => h16 h.2)] at H
      have d16 : decide ((16 : Int) ≤ ((rd_T44 l0 (i : Int)).f3.length : Int)) = false := decide_eq_false (by omega)
      have d16N : decide (16 ≤ (rd_T44 l0 (i : Int)).f3.length) = false := decide_eq_false (by omega)
      by_cases hs : shortT l0 = true ∧ (rd_T44 l0 (i : Int)).f3.length ≤ 16
      ·rw [if_pos hs] at H
       simp only [Option.some.injEq, Prod.mk.injEq] at H
       obtain ⟨hR1, rfl⟩ := H
       have HR1 := Aside0.mk hR1
       have HP := Aside0.mk hp
       clear hp h16 hs hR1 hp16
       go_enter Tryd.func36, Tryd.ntmps36
       go_wp2_with (first
        | (go_at_call 54; (with_reducible refine HWR.out.mono ?_); rintro e w1 ⟨rfl, hb⟩; have HB := Aside0.mk hb; clear hb; have hz3 := (HB.out.cell (World.block_lt_of_cell? _ _ HZ3.out)).trans HZ3.out)
        | (go_at_call 44; (with_reducible refine (HNM.out _).mono ?_); rintro e w2 ⟨rfl, hd⟩; have hb := hd.below; replace HB := Aside0.mk (below_step HB.out hb); have hz3n := (hb.cell (World.block_lt_of_cell? _ _ hz3)).trans hz3; clear hb hd hz3)
        | (go_at_call 46; (with_reducible refine (HFN.out _ HB.out).mono ?_); rintro e w3 ⟨rfl, hd⟩; have hb := hd.below; replace HB := Aside0.mk (below_step HB.out hb); have hz3f := (hb.cell (World.block_lt_of_cell? _ _ hz3n)).trans hz3n; clear hb hd hz3n)
        | (go_at_call 18; (with_reducible refine (refCopyT_calls 1000000000000000000000000000000 _ c0 l0 l0 _ (Kd.C_below HC0.out HB.out) HK0.out HCP.out).mono ?_); rintro e w5 ⟨v5, rfl, ho, hb⟩; replace ho := OT_lower ho HB.out.size; have HB5 := Aside0.mk (below_step HB.out hb); obtain ⟨g, cap, rfl, -, -, -⟩ := Kd.R_form (OT_R ho) (by have := HIL.out; omega); obtain ⟨v1, v3, v4, -, hbg, hgl, hc3, hf3, g1, g3, g4, hset⟩ := OT_lend ho i HIL.out; obtain ⟨B3, b3, rfl⟩ := Kd.R_slice g3; have HSET := Aside0.mk hset; have G3 := Aside0.mk g3; have HGL5 := Aside0.mk hgl; have HBG := Aside0.mk hbg; clear hb ho g1 g3 g4 hset hgl hbg hz3f))
       have HBS := Aside0.mk HB5.out.size
       have HOW := Aside0.mk (show ∀ k, (Value.slice B3 (rd_T44 l0 (i : Int)).f3.length b3).ownBlock = some k → k < w5.heap.size from fun k hk => ((Kd.R_bound G3.out).1 k hk).2.2.1)
       have HCL7 := Aside0.mk (fun (W : World) (hb : Below w5.heap.size w5 W) => HCL.out W (below_step HB5.out hb))
       obtain ⟨np, hnp⟩ : ∃ np, np = (rd_T44 l0 (i : Int)).f3.length := ⟨_, rfl⟩
       rw [← hnp] at hc3 G3 HOW HSET
       have hcp := hc3
       have HNP := Aside0.mk hnp
       clear hc3 hnp
       refine start_ (n := 16) (S := fun w' => w'.cell? ⟨g, i * 5 + 3, none⟩ = some (.slice B3 np b3) ∧ Below w5.heap.size w5 w') (ds := [12, 15]) #[false, false, false, false, false, false, false, false, false, false, false, false, false, false, false, false] (by kernel_rfl) rfl rfl ⟨hcp, below_drew1 (Below.refl w5.heap.size w5)⟩ (fun hHeld => ?_)
       refine pure_ (i := 0) (N := some 47) (v := ?_) (a' := ?_) #[true, false, false, false, false, false, false, false, false, false, false, false, false, false, false, false] rfl rfl (by kernel_rfl) (fun _ _ _ h => h) (Or.inl ⟨by rfl, ?_⟩) ?_ ?_
       rotate_left
       ·intro w'
        go_simp
        with_reducible rfl
       rotate_left
       ·simp only [Act.put, List.setIfInBounds_toArray, List.set_cons_zero, List.set_cons_succ]
        rfl
       refine pure_ (i := 1) (N := some 48) (v := ?_) (a' := ?_) #[true, true, false, false, false, false, false, false, false, false, false, false, false, false, false, false] rfl rfl (by kernel_rfl) (fun _ _ _ h => h) (Or.inl ⟨by rfl, ?_⟩) ?_ ?_
       rotate_left
       ·intro w'
        go_simp
        with_reducible rfl
       rotate_left
       ·simp only [Act.put, List.setIfInBounds_toArray, List.set_cons_zero, List.set_cons_succ]
        rfl
       refine pure_ (i := 2) (N := some 49) (v := ?_) (a' := ?_) #[true, true, true, false, false, false, false, false, false, false, false, false, false, false, false, false] rfl rfl (by kernel_rfl) (fun _ _ _ h => h) (Or.inl ⟨by rfl, ?_⟩) ?_ ?_
       rotate_left
       ·intro w'
        go_simp
        with_reducible rfl
       rotate_left
       ·simp only [Act.put, List.setIfInBounds_toArray, List.set_cons_zero, List.set_cons_succ]
        rfl
       refine pure_ (i := 3) (N := some 50) (v := ?_) (a' := ?_) #[true, true, true, true, false, false, false, false, false, false, false, false, false, false, false, false] rfl rfl (by kernel_rfl) (fun _ _ _ h => h) (Or.inl ⟨by rfl, ?_⟩) ?_ ?_
       rotate_left
       ·intro w'
        go_simp
        with_reducible rfl
       rotate_left
       ·simp only [Act.put, List.setIfInBounds_toArray, List.set_cons_zero, List.set_cons_succ]
        rfl
       refine pure_ (i := 4) (N := some 51) (v := ?_) (a' := ?_) #[true, true, true, true, true, false, false, false, false, false, false, false, false, false, false, false] rfl rfl (by kernel_rfl) (fun _ _ _ h => h) (Or.inl ⟨by rfl, ?_⟩) ?_ ?_
       rotate_left
       ·intro w'
        go_simp
        with_reducible rfl
       rotate_left
       ·simp only [Act.put, List.setIfInBounds_toArray, List.set_cons_zero, List.set_cons_succ]
        rfl
       refine pure_ (i := 5) (N := some 52) (v := ?_) (a' := ?_) #[true, true, true, true, true, true, false, false, false, false, false, false, false, false, false, false] rfl rfl (by kernel_rfl) (fun _ _ _ h => h) (Or.inl ⟨by rfl, ?_⟩) ?_ ?_
       rotate_left
       ·intro w'
        go_simp
        with_reducible rfl
       rotate_left
       ·simp only [Act.put, List.setIfInBounds_toArray, List.set_cons_zero, List.set_cons_succ]
        rfl
       refine pure_ (i := 7) (N := some 54) (v := ?_) (a' := ?_) #[true, true, true, true, true, true, false, true, false, false, false, false, false, false, false, false] rfl rfl (by kernel_rfl) (fun _ _ _ h => h) (Or.inl ⟨by rfl, ?_⟩) ?_ ?_
       rotate_left
       ·intro w'
        go_simp
        with_reducible rfl
       rotate_left
       ·simp only [Act.put, List.setIfInBounds_toArray, List.set_cons_zero, List.set_cons_succ]
        rfl
       refine pure_ (i := 8) (N := some 55) (v := ?_) (a' := ?_) #[true, true, true, true, true, true, false, true, true, false, false, false, false, false, false, false] rfl rfl (by kernel_rfl) (fun _ _ _ h => h) (Or.inl ⟨by rfl, ?_⟩) ?_ ?_
       rotate_left
       ·intro w'
        go_simp
        with_reducible rfl
       rotate_left
       ·simp only [Act.put, List.setIfInBounds_toArray, List.set_cons_zero, List.set_cons_succ]
        rfl
       refine take_ (i := 6) (N := some 53) (v := (.slice B3 np b3)) (a' := ?_) #[true, true, true, true, true, true, true, true, true, false, false, false, false, false, false, false] rfl rfl (by kernel_rfl) (fun _ _ _ h => h) (Or.inl ⟨by rfl, ?_⟩) hHeld ?_ ?_
       rotate_left
       rotate_left
       ·simp only [Act.put, List.setIfInBounds_toArray, List.set_cons_zero, List.set_cons_succ]
        rfl
       rotate_left
       ·rintro w' ⟨s0, s1⟩
        go_simp
       refine one_ (i := 9) (N := some 56) #[true, true, true, true, true, true, true, true, true, true, false, false, false, false, false, false] rfl rfl (by kernel_rfl) (by decide) (fun K hK => ?_)
       refine goes_ Tryd.func52 (by kernel_rfl) rfl #[.slice A3 l3.length c3] (by rfl) rfl rfl (by first | rfl | (simp only [List.map_toArray, List.map_cons, List.map_nil]; rfl)) ?_
       refine (HCL7.out _ hHeld.2).mono ?_
       rintro e w8 ⟨v8, rfl, ho8, hb8⟩
       obtain ⟨A8, c8, rfl⟩ := Kd.R_slice ho8
       have HO8 := Aside0.mk (Kd.R_lower ho8 hHeld.2.size)
       refine ⟨_, rfl, hK.out _ _ ⟨(hb8.cell (World.block_lt_of_cell? _ _ hHeld.1)).trans hHeld.1, below_step hHeld.2 hb8⟩ (fun hHeld => ?_)⟩
       clear ho8 hb8
       clear hK K
       simp only [Act.put, List.setIfInBounds_toArray, List.set_cons_zero, List.set_cons_succ]
       refine pure_ (i := 10) (N := some 57) (v := ?_) (a' := ?_) #[true, true, true, true, true, true, true, true, true, true, true, false, false, false, false, false] rfl rfl (by kernel_rfl) (fun _ _ _ h => h) (Or.inl ⟨by rfl, ?_⟩) ?_ ?_
       rotate_left
       ·intro w'
        go_simp
        with_reducible rfl
       rotate_left
       ·simp only [Act.put, List.setIfInBounds_toArray, List.set_cons_zero, List.set_cons_succ]
        rfl
       refine one_ (i := 11) (N := some 58) #[true, true, true, true, true, true, true, true, true, true, true, true, false, false, false, false] rfl rfl (by kernel_rfl) (by decide) (fun K hK => ?_)
       refine event_stepS (by rfl) rfl (v := .slice (some ⟨w8.heap.size, 0, none⟩) 1 1) (w1 := w8.alloc (.cells #[.string a2, .slice A8 l3.length c8] 53)) (by first | (go_simp; done) | (go_simp; rfl)) (hK.out _ _ ⟨((below_alloc (Below.refl w8.heap.size w8) _).cell (World.block_lt_of_cell? _ _ hHeld.1)).trans hHeld.1, below_alloc hHeld.2 _⟩ (fun hHeld2 => ?_))
       clear hK K
       simp only [Act.put, List.getElem_toArray, List.getElem_cons_succ, List.getElem_cons_zero, List.setIfInBounds_toArray, List.set_cons_zero, List.set_cons_succ]
       refine last_ (i := 12) (N := some 59) #[true, true, true, true, true, true, true, true, true, true, true, true, true, false, false, false] rfl rfl (by kernel_rfl) (by decide) (fun K hK => ?_)
       refine Kd.R_append_step k53 (w0 := w) w.heap.size (by rfl) (.tmp 53) (.tmp 58) 42 53 (.agg #[(.string ⟨#[]⟩), (.slice none 0 0)]) 40 rfl Tryd.underlying42 info53 rfl (by decide) (by decide) (.slice B3 np b3) (rd_T44 l0 (i : Int)).f3 (⟨a2, l3⟩ : S53) [.string a2, .slice A8 l3.length c8] (fun k => k ≠ g) (fun k => w5.heap.size ≤ k) rfl rfl (k53_mkM _ _ _ (⟨a2, l3⟩ : S53) (Kd.R_lower (Kd.R_mono (Kd.R_bound HO8.out) (fun k hk => hk.2.1)) HBS.out)) (fun k hk => ⟨by have := HGL5.out; omega, fun e => by have := HOW.out k e.symm; omega⟩) (fun k hk => by have := HGL5.out; have := hHeld.2.size; omega) (Kd.R_below G3.out hHeld.2) (below_step HB5.out hHeld.2) (below_step HB5.out hHeld.2).size (by have := H16.out; omega) ?_
       intro v6 w6 ho6 hb6 hg6 hat6
       refine hK.out _ _ ?_
       obtain ⟨A6, c6, rfl⟩ := Kd.R_slice ho6
       obtain ⟨n6, hn6⟩ : ∃ n6, n6 = ((rd_T44 l0 (i : Int)).f3 ++ [(⟨a2, l3⟩ : S53)]).length := ⟨_, rfl⟩
       rw [← hn6] at ho6 hat6 ⊢
       clear hn6
       have hgn : w6.heap[g]? = w8.heap[g]? := hg6.block g (Nat.lt_of_lt_of_le HGL5.out hHeld.2.size) (fun e => (G3.out.1 g e.symm) rfl)
       have hgn5 : w8.heap[g]? = w5.heap[g]? := hHeld.2.block g HGL5.out
       have hc6 := (cell_same (o := i * 5 + 3) hgn).trans hHeld.1
       have hf6 : w6.frozen? ⟨g, i * 5 + 3, none⟩ = false := (frozen_same (o := i * 5 + 3) (hgn.trans hgn5)).trans hf3
       have HO6 := Aside0.mk ho6
       have HB6 := Aside0.mk hb6
       have HG6 := Aside0.mk hg6
       have HAT6 := Aside0.mk hat6
       have H8 := Aside0.mk hHeld.2
       clear ho6 hb6 hg6 hat6 hgn hgn5
       clear hK K
       simp only [Act.put, List.getElem_toArray, List.getElem_cons_succ, List.getElem_cons_zero, List.setIfInBounds_toArray, List.set_cons_zero, List.set_cons_succ]
       refine pure_ (i := 13) (N := some 60) (v := ?_) (a' := ?_) #[true, true, true, true, true, true, true, true, true, true, true, true, true, true, false, false] rfl rfl (by kernel_rfl) (fun _ _ _ h => h) (Or.inl ⟨by rfl, ?_⟩) ?_ ?_
       rotate_left
       ·intro w'
        go_simp
        with_reducible rfl
       rotate_left
       ·simp only [Act.put, List.setIfInBounds_toArray, List.set_cons_zero, List.set_cons_succ]
        rfl
       refine pure_ (i := 14) (N := some 61) (v := ?_) (a' := ?_) #[true, true, true, true, true, true, true, true, true, true, true, true, true, true, true, false] rfl rfl (by kernel_rfl) (fun _ _ _ h => h) (Or.inl ⟨by rfl, ?_⟩) ?_ ?_
       rotate_left
       ·intro w'
        go_simp
        with_reducible rfl
       rotate_left
       ·simp only [Act.put, List.setIfInBounds_toArray, List.set_cons_zero, List.set_cons_succ]
        rfl
       refine last_ (i := 15) (N := none) #[true, true, true, true, true, true, true, true, true, true, true, true, true, true, true, true] rfl rfl (by kernel_rfl) (by decide) (fun K hK => ?_)
       refine skip_ (w1 := ?_) (by rfl) rfl ?_ ?_
       rotate_left
       ·go_simp
        rfl
       refine hK.out _ _ ?_
       obtain ⟨w7, hw7⟩ : ∃ w7, w7 = w6.setCell ⟨g, i * 5 + 3, none⟩ (.slice A6 n6 c6) := ⟨_, rfl⟩
       rw [← hw7]
       clear hK K
       refine done_ (n := 0) (by kernel_rfl) ?_
       have HW7 := Aside0.mk hw7
       obtain ⟨hot7, hgr7⟩ := HSET.out w6 w7 _ _ HO6.out (fun k hk hk2 => (HG6.out.block k (Nat.lt_of_lt_of_le hk H8.out.size) (fun e => hk2 e)).trans (H8.out.block k hk)) (fun k hk => by rcases HAT6.out with e | ⟨b, e, hb⟩; exact .inl (by rw [← e]; exact hk); exact .inr (by rw [e] at hk; injection hk with hk; have := H8.out.size; omega)) (.inl HW7.out)
       have hB7 := HB6.out.grown hgr7 HB6.out.size (fun k hk => by injection hk with hk; have := HBG.out; omega)
       clear hw7
       go_wp2
       go_ret2
       refine ⟨_, rfl, ?_, hB7⟩
       have h9 := OT_R hot7
       rw [← HR1.out]
       unfold withF putF
       rw [if_pos (show plcF l0 (i : Int) a2 < 0 by have := HP.out; omega), Int.toNat_natCast]
       exact h9
      ·rw [if_neg hs] at H
       cases H
    ·have dp : decide (plcF l0 (i : Int) a2 < 0) = false := decide_eq_false hp
     rw [if_neg (fun h => hp h.1)] at H
     by_cases hs : shortT l0 = true ∧ (rd_T44 l0 (i : Int)).f3.length ≤ 16
     ·rw [if_pos hs] at H
      simp only [Option.some.injEq, Prod.mk.injEq] at H
      obtain ⟨hR1, rfl⟩ := H
      have HR1 := Aside0.mk hR1
      have HP := Aside0.mk hp
      obtain ⟨kk, hkk⟩ : ∃ kk : Nat, plcF l0 (i : Int) a2 = (kk : Int) := ⟨(plcF l0 (i : Int) a2).toNat, by omega⟩
      have dk : decide ((kk : Int) < 0) = false := decide_eq_false (by omega)
      rw [hkk] at HFN HPR dp
      have HKP := Aside0.mk hkk
      clear hp hs hR1 hkk hp16
      go_enter Tryd.func36, Tryd.ntmps36
      go_wp2_with (first
       | (go_at_call 54; (with_reducible refine HWR.out.mono ?_); rintro e w1 ⟨rfl, hb⟩; have HB := Aside0.mk hb; clear hb; have hz3 := (HB.out.cell (World.block_lt_of_cell? _ _ HZ3.out)).trans HZ3.out)
       | (go_at_call 44; (with_reducible refine (HNM.out _).mono ?_); rintro e w2 ⟨rfl, hd⟩; have hb := hd.below; replace HB := Aside0.mk (below_step HB.out hb); have hz3n := (hb.cell (World.block_lt_of_cell? _ _ hz3)).trans hz3; clear hb hd hz3)
       | (go_at_call 46; (with_reducible refine (HFN.out _ HB.out).mono ?_); rintro e w3 ⟨rfl, hd⟩; have hb := hd.below; replace HB := Aside0.mk (below_step HB.out hb); have hz3f := (hb.cell (World.block_lt_of_cell? _ _ hz3n)).trans hz3n; clear hb hd hz3n)
       | (go_at_call 18; (with_reducible refine (refCopyT_calls 1000000000000000000000000000000 _ c0 l0 l0 _ (Kd.C_below HC0.out HB.out) HK0.out HCP.out).mono ?_); rintro e w5 ⟨v5, rfl, ho, hb⟩; replace ho := OT_lower ho HB.out.size; have HB5 := Aside0.mk (below_step HB.out hb); obtain ⟨g, cap, rfl, -, -, -⟩ := Kd.R_form (OT_R ho) (by have := HIL.out; omega); obtain ⟨v1, v3, v4, -, hbg, hgl, hc3, hf3, g1, g3, g4, hset⟩ := OT_lend ho i HIL.out; obtain ⟨B3, b3, rfl⟩ := Kd.R_slice g3; have HSET := Aside0.mk hset; have G3 := Aside0.mk g3; have HGL5 := Aside0.mk hgl; have HBG := Aside0.mk hbg; clear hb ho g1 g3 g4 hset hgl hbg hz3f))
      have g3 := G3.out
      obtain ⟨gp, bp, e3, -, -, -⟩ := Kd.R_form g3 (by have := HPR.out; omega)
      cases e3
      have hset2 := HSET
      have GP := G3
      have HGL := HGL5
      have HBS := Aside0.mk HB5.out.size
      have hcp := hc3
      obtain ⟨np, hnp⟩ : ∃ np, np = (rd_T44 l0 (i : Int)).f3.length := ⟨_, rfl⟩
      have HNP := Aside0.mk hnp
      have HKK := Aside0.mk (show kk < (rd_T44 l0 (i : Int)).f3.length by have := HPR.out; omega)
      rw [← hnp] at hcp
      clear hnp
      have r1 : (0 ≤ (kk : Int)) = True := eq_true (by omega)
      have r2 : ((kk : Int) < (np : Int)) = True := eq_true (by have := HKK.out; have := HNP.out; omega)
      have r3 : (kk < np) = True := eq_true (by have := HKK.out; have := HNP.out; omega)
      have HCL7 := Aside0.mk (fun (W : World) (hb : Below w5.heap.size w5 W) => HCL.out W (below_step HB5.out hb))
      clear g3 hc3 hf3
      refine start_ (n := 11) (S := fun w' => w'.cell? ⟨g, i * 5 + 3, none⟩ = some (.slice (some ⟨gp, 0, none⟩) np b3) ∧ Below w5.heap.size w5 w') (ds := [10]) #[false, false, false, false, false, false, false, false, false, false, false] (by kernel_rfl) rfl rfl ⟨hcp, below_drew1 (Below.refl w5.heap.size w5)⟩ (fun hHeld => ?_)
      refine pure_ (i := 0) (N := some 62) (v := ?_) (a' := ?_) #[true, false, false, false, false, false, false, false, false, false, false] rfl rfl (by kernel_rfl) (fun _ _ _ h => h) (Or.inl ⟨by rfl, ?_⟩) ?_ ?_
      rotate_left
      ·intro w'
       go_simp
       with_reducible rfl
      rotate_left
      ·simp only [Act.put, List.setIfInBounds_toArray, List.set_cons_zero, List.set_cons_succ]
       rfl
      refine pure_ (i := 1) (N := some 63) (v := ?_) (a' := ?_) #[true, true, false, false, false, false, false, false, false, false, false] rfl rfl (by kernel_rfl) (fun _ _ _ h => h) (Or.inl ⟨by rfl, ?_⟩) ?_ ?_
      rotate_left
      ·intro w'
       go_simp
       with_reducible rfl
      rotate_left
      ·simp only [Act.put, List.setIfInBounds_toArray, List.set_cons_zero, List.set_cons_succ]
       rfl
      refine pure_ (i := 2) (N := some 64) (v := ?_) (a' := ?_) #[true, true, true, false, false, false, false, false, false, false, false] rfl rfl (by kernel_rfl) (fun _ _ _ h => h) (Or.inl ⟨by rfl, ?_⟩) ?_ ?_
      rotate_left
      ·intro w'
       go_simp
       with_reducible rfl
      rotate_left
      ·simp only [Act.put, List.setIfInBounds_toArray, List.set_cons_zero, List.set_cons_succ]
       rfl
      refine pure_ (i := 3) (N := some 65) (v := ?_) (a' := ?_) #[true, true, true, true, false, false, false, false, false, false, false] rfl rfl (by kernel_rfl) (fun _ _ _ h => h) (Or.inl ⟨by rfl, ?_⟩) ?_ ?_
      rotate_left
      ·intro w'
       go_simp
       with_reducible rfl
      rotate_left
      ·simp only [Act.put, List.setIfInBounds_toArray, List.set_cons_zero, List.set_cons_succ]
       rfl
      refine pure_ (i := 5) (N := some 67) (v := ?_) (a' := ?_) #[true, true, true, true, false, true, false, false, false, false, false] rfl rfl (by kernel_rfl) (fun _ _ _ h => h) (Or.inl ⟨by rfl, ?_⟩) ?_ ?_
      rotate_left
      ·intro w'
       go_simp
       with_reducible rfl
      rotate_left
      ·simp only [Act.put, List.setIfInBounds_toArray, List.set_cons_zero, List.set_cons_succ]
       rfl
      refine pure_ (i := 6) (N := some 68) (v := ?_) (a' := ?_) #[true, true, true, true, false, true, true, false, false, false, false] rfl rfl (by kernel_rfl) (fun _ _ _ h => h) (Or.inl ⟨by rfl, ?_⟩) ?_ ?_
      rotate_left
      ·intro w'
       go_simp
       with_reducible rfl
      rotate_left
      ·simp only [Act.put, List.setIfInBounds_toArray, List.set_cons_zero, List.set_cons_succ]
       rfl
      refine take_ (i := 4) (N := some 66) (v := (.slice (some ⟨gp, 0, none⟩) np b3)) (a' := ?_) #[true, true, true, true, true, true, true, false, false, false, false] rfl rfl (by kernel_rfl) (fun _ _ _ h => h) (Or.inl ⟨by rfl, ?_⟩) hHeld ?_ ?_
      rotate_left
      rotate_left
      ·simp only [Act.put, List.setIfInBounds_toArray, List.set_cons_zero, List.set_cons_succ]
       rfl
      rotate_left
      ·rintro w' ⟨s0, s1⟩
       go_simp
      refine one_ (i := 7) (N := some 69) #[true, true, true, true, true, true, true, true, false, false, false] rfl rfl (by kernel_rfl) (by decide) (fun K hK => ?_)
      refine goes_ Tryd.func52 (by kernel_rfl) rfl #[.slice A3 l3.length c3] (by rfl) rfl rfl (by first | rfl | (simp only [List.map_toArray, List.map_cons, List.map_nil]; rfl)) ?_
      refine (HCL7.out _ hHeld.2).mono ?_
      rintro e w8 ⟨v8, rfl, ho8, hb8⟩
      obtain ⟨A8, c8, rfl⟩ := Kd.R_slice ho8
      have HO8 := Aside0.mk (Kd.R_lower ho8 hHeld.2.size)
      refine ⟨_, rfl, hK.out _ _ ⟨(hb8.cell (World.block_lt_of_cell? _ _ hHeld.1)).trans hHeld.1, below_step hHeld.2 hb8⟩ (fun hHeld => ?_)⟩
      clear ho8 hb8
      clear hK K
      simp only [Act.put, List.setIfInBounds_toArray, List.set_cons_zero, List.set_cons_succ]
      refine pure_ (i := 8) (N := some 70) (v := ?_) (a' := ?_) #[true, true, true, true, true, true, true, true, true, false, false] rfl rfl (by kernel_rfl) (fun _ _ _ h => h) (Or.inl ⟨by rfl, ?_⟩) ?_ ?_
      rotate_left
      ·intro w'
       go_simp
       with_reducible rfl
      rotate_left
      ·simp only [Act.put, List.setIfInBounds_toArray, List.set_cons_zero, List.set_cons_succ]
       rfl
      refine pure_ (i := 9) (N := some 71) (v := ?_) (a' := ?_) #[true, true, true, true, true, true, true, true, true, true, false] rfl rfl (by kernel_rfl) (fun _ _ _ h => h) (Or.inl ⟨by rfl, ?_⟩) ?_ ?_
      rotate_left
      ·intro w'
       go_simp
       with_reducible rfl
      rotate_left
      ·simp only [Act.put, List.setIfInBounds_toArray, List.set_cons_zero, List.set_cons_succ]
       rfl
      refine last_ (i := 10) (N := none) #[true, true, true, true, true, true, true, true, true, true, true] rfl rfl (by kernel_rfl) (by decide) (fun K hK => ?_)
      obtain ⟨⟨Ad, cd, hdc⟩, hdf, hdR, hdm, hdg, hdb⟩ := props_put GP.out HGL.out hHeld.2 kk HKK.out HO8.out HBS.out
      refine skip_ (w1 := ?_) (by rfl) rfl ?_ ?_
      rotate_left
      ·go_simp
       rfl
      refine hK.out _ _ ?_
      generalize w8.setCell ⟨gp, kk * 2 + 1, none⟩ (.slice A8 l3.length c8) = w9 at hdR hdm hdg ⊢
      clear hK K
      refine done_ (n := 0) (by kernel_rfl) ?_
      have hot := hset2.out w9 w9 _ _ hdR hdm (fun k hk => .inl hk) (.inr ⟨rfl, rfl⟩)
      have hB8 := below_step HB5.out hHeld.2
      have hB9 := hB8.grown hdg hB8.size (fun k hk => by injection hk with hk; omega)
      go_wp2
      go_ret2
      refine ⟨_, rfl, ?_, hB9⟩
      have h9 := OT_R hot.1
      rw [← HR1.out]
      unfold withF putF
      rw [if_neg (show ¬ plcF l0 (i : Int) a2 < 0 by have := HP.out; omega), Int.toNat_natCast, HKP.out, Int.toNat_natCast]
      exact h9
     ·rw [if_neg hs] at H
      cases H
 ·rw [if_neg he] at H
  simp only [Option.some.injEq, Prod.mk.injEq] at H
  obtain ⟨rfl, rfl⟩ := H
  have heb : (e0 == 0) = false := beq_eq_false_iff_ne.2 he
  have heb2 : (e0 != 0) = true := bne_iff_ne.2 he
  clear hr0 hc0 hr3 hc3 E1 he hgd hG
  go_enter Tryd.func36, Tryd.ntmps36
  go_wp2_with (go_at_call 54; (with_reducible refine HWR.out.mono ?_); rintro e w1 ⟨rfl, hb⟩; have HB := Aside0.mk hb; clear hb)
  go_ret2
  exact ⟨_, rfl, Kd.R_nil _ _ _ _ _, HB.out⟩
end Go.Proofs.YtnalcjgefbelnaaDoor.Q
end
section
set_option linter.unusedSimpArgs false
set_option linter.unusedVariables false
namespace Go.Proofs.YtnalcjgefbelnaaDoor.Q
open Go.RowKit Go.Proofs.YtnalcjgefbelnaaDoorW.PrintWords Go.Proofs.YtnalcjgefbelnaaDoorW.PrintLast Go.Proofs.YtnalcjgefbelnaaDoorW.PrintMore
attribute [local go_sem] max2_int min2_int max_two min_two max_three min_three max_four min_four
theorem rows_cut {α : Type} {R : α → List Value → Prop} {size : Nat} {w : World} {A : Option Addr} {n c : Nat} {xs : List α} (h : ReadsRow R size w A n xs) (hc : n ≤ c) (lo m : Nat) (hm : lo + m ≤ n) : ReadsRow R size w (cutAt A c lo size) m ((xs.drop lo).take m) := by
 have hl : xs.length = n := h.1
 refine ⟨by simp [hl]; omega, by have := h.2.1; omega, fun hp => ?_⟩
 obtain ⟨ad, rfl, hcell⟩ := h.2.2 (by omega)
 refine ⟨ad.add (lo * size), by unfold cutAt; rw [if_neg (by omega)]; rfl, fun j p hj => ?_⟩
 have hjm : j < m := by
  have := (List.getElem?_eq_some_iff.1 hj).1
  simp at this; omega
 have hj' : xs[lo + j]? = some p := by
  rw [List.getElem?_take, if_pos hjm, List.getElem?_drop] at hj
  exact hj
 obtain ⟨cs, h1, h2, h3⟩ := hcell (lo + j) p hj'
 refine ⟨cs, h1, h2, fun i u hu => ?_⟩
 have := h3 i u hu
 rw [show (lo + j) * size + i = lo * size + (j * size + i) by rw [Nat.add_mul]; omega] at this
 rw [add_add]
 exact this
theorem rows_take {α : Type} {R : α → List Value → Prop} {size : Nat} {w : World} {A : Option Addr} {n : Nat} {xs : List α} (h : ReadsRow R size w A n xs) {m : Nat} (hm : m ≤ n) : ReadsRow R size w A m (xs.take m) := by
 have hl : xs.length = n := h.1
 refine ⟨by rw [List.length_take]; omega, by have := h.2.1; omega, fun hp => ?_⟩
 obtain ⟨ad, rfl, hcell⟩ := h.2.2 (by omega)
 refine ⟨ad, rfl, fun j p hj => hcell j p ?_⟩
 rw [List.getElem?_take] at hj
 split at hj
 ·exact hj
 ·cases hj
theorem own_reads53 {W : World} {base gp n c : Nat} {ok : Nat → Prop} {q : List S53} (h : Kd.R k53 53 W base ok (.slice (some ⟨gp, 0, none⟩) n c) q) : ReadsRow (k53.M W base ok) 2 W (some ⟨gp, 0, none⟩) n q := by
 obtain ⟨hn, -, -⟩ := Kd.R_reads' h
 obtain ⟨h0, inner, ho, hr⟩ := h
 obtain ⟨A, c', he, hR⟩ := own_reads_row ho hr rfl
 injection he with e1 e2 e3
 subst e1
 rw [hn]
 exact ⟨hR.1, hR.2.1, fun hp => by
  obtain ⟨ad, ea, hc⟩ := hR.2.2 hp
  exact ⟨ad, ea, fun j p hj => by
   obtain ⟨cs, a1, a2, a3⟩ := hc j p hj
   exact ⟨cs, a1, k53.M_mono (fun k hk => hk.1) a2, a3⟩⟩⟩
/-- Such a row where the elder blocks stand. -/
theorem rows_move {W W' : World} {base g gp n : Nat} {q : List S53} (h : ReadsRow (k53.M W base (fun k => k ≠ g ∧ k < W.heap.size)) 2 W (some ⟨gp, 0, none⟩) n q) (hk : ∀ k, k < W.heap.size → W'.heap[k]? = W.heap[k]?) (hgp : gp < W.heap.size) : ReadsRow (k53.M W' base (fun k => k ≠ g ∧ k < W.heap.size)) 2 W' (some ⟨gp, 0, none⟩) n q := by
 refine ⟨h.1, h.2.1, fun hp => ?_⟩
 obtain ⟨ad, ea, hc⟩ := h.2.2 hp
 injection ea with ea
 subst ea
 refine ⟨_, rfl, fun j p hj => ?_⟩
 obtain ⟨cs, a1, a2, a3⟩ := hc j p hj
 refine ⟨cs, a1, k53.M_move (fun k hkk => hk k hkk.2) a2, fun i u hu => ?_⟩
 have h3 := a3 i u hu
 rw [add_plain] at h3 ⊢
 rw [cell_same (hk gp hgp)]
 exact h3
theorem fresh_own {v : Value} {b s : Nat} (h : v.ownBlock = (Value.slice none 0 0).ownBlock ∨ ∃ q, v.ownBlock = some q ∧ s ≤ q) (hb : b ≤ s) : ∀ k, v.ownBlock = some k → b ≤ k := by
 intro k hk
 rcases h with h | ⟨q, hq, hs⟩
 ·rw [h] at hk
  simp [Value.ownBlock] at hk
 ·rw [hq] at hk
  injection hk with hk
  omega
theorem cuts53 (gp nn bp : Nat) (kk : Int) (h0 : 0 ≤ kk) (h1 : kk < nn) (hb : nn ≤ bp) : ∃ (K M2 C2 : Nat) (A2 : Option Addr), K = kk.toNat ∧ M2 = nn - (kk.toNat + 1) ∧ A2 = cutAt (some ⟨gp, 0, none⟩) bp (kk.toNat + 1) 2 ∧
  (∀ W : World, (Instr.slice 42 (.slice (some ⟨gp, 0, none⟩) nn bp) none (some (.int .i64 kk)) none).run Tryd.prog W = .ok (.slice (some ⟨gp, 0, none⟩) K bp) W) ∧
  (∀ W : World, (Instr.slice 42 (.slice (some ⟨gp, 0, none⟩) nn bp) (some (.int .i64 (kk + 1))) none none).run Tryd.prog W = .ok (.slice A2 M2 C2) W) := by
 refine ⟨_, _, bp - (kk.toNat + 1), _, rfl, rfl, rfl, fun W => ?_, fun W => ?_⟩
 ·rw [run_cut_hi Tryd.underlying42 info53s (some ⟨gp, 0, none⟩) nn bp kk (by omega) (by omega) W]
 ·rw [run_cut_lo Tryd.underlying42 info53s (some ⟨gp, 0, none⟩) nn bp (kk + 1) (by omega) (by omega) W, show (kk + 1).toNat = kk.toNat + 1 by omega]
def tinderref08_Drop.f (l0 : List S44) (a1 : Int) (a2 : ByteArray) : Option (List S44 × Int) := if goodTS l0 = true then tree_Drop.f l0 a1 a2 else none
set_option maxHeartbeats 16000000 in
set_option maxRecDepth 100000 in
theorem tinderref08_Drop.calls (A0 : Option Addr) (c0 : Nat) (l0 : List S44) (a1 : Int) (a2 : ByteArray) (r1 : List S44) (r2 : Int) (w : World) (hr0 : Kd.C k44 w A0 l0.length l0) (hc0 : l0.length ≤ c0) (h : tinderref08_Drop.f l0 a1 a2 = some (r1, r2)) :
  Calls Tryd.prog 38 #[.slice A0 l0.length c0, .int .i64 a1, .string a2] w fun e w' => ∃ v0_ : Value, e = .returned (.tuple #[v0_, .int .i64 r2]) ∧ Kd.R k44 44 w' w.heap.size (fun _ => True) v0_ r1 ∧ Below w.heap.size w w' := by
 have mixed : Tryd.prog.follows Departure.mixedOrders = true := by kernel_rfl
 have hu44 := Tryd.underlying44
 have hu53 := Tryd.underlying53
 unfold tinderref08_Drop.f at h
 split at h
 case isFalse => cases h
 rename_i hgd
 have hG := goodTS_iff.1 hgd
 unfold tree_Drop.f at h
 obtain ⟨e0, E1, H⟩ := Option.bind_eq_some_iff.mp h
 clear h
 have HC0 := Aside0.mk hr0
 have HK0 := Aside0.mk hc0
 have HWR := Aside0.mk (tinderref08_wrong.calls 1000000000000000000000000000000 A0 c0 l0 a1 e0 w hr0 hc0 (by rw [wrong_eq hG a1 _ (Nat.le_refl _)]; exact E1))
 have HCP := Aside0.mk (refCopy_eq hG _ (Nat.le_refl _))
 by_cases he : e0 = 0
 ·subst he
  rw [if_pos rfl] at H
  obtain ⟨h0, h1⟩ := check_in E1
  obtain ⟨i, rfl⟩ : ∃ i : Nat, a1 = (i : Int) := ⟨a1.toNat, by omega⟩
  have HIL := Aside0.mk (show i < l0.length by omega)
  have hpr := idxP_range (isP a2) (rd_T44 l0 (i : Int)).f3
  have HPR := Aside0.mk (show -1 ≤ plcF l0 (i : Int) a2 ∧ plcF l0 (i : Int) a2 < (rd_T44 l0 (i : Int)).f3.length from hpr)
  have hp16 : (rd_T44 l0 (i : Int)).f3.length ≤ 16 := by
   have h := node_props (check_form E1) (i : Int) h0 h1
   unfold propsF at h
   simp only [Bool.and_eq_true, decide_eq_true_eq] at h
   exact h.1
  have p1 : (0 ≤ (i : Int)) = True := eq_true h0
  have p2 : ((i : Int) < (l0.length : Int)) = True := eq_true h1
  have p3 : (i < l0.length) = True := eq_true HIL.out
  obtain ⟨adz, D1, d1, D3, d3, D4, d4, eA, -, -, -, hz3, -, -, -, hkz, hgz, -, -⟩ := at_T44 hr0 (i : Int) h0 h1
  cases eA
  rw [Int.toNat_natCast] at hz3
  have HZ3 := Aside0.mk hz3
  have hfn := fun (W : World) (hb : Below w.heap.size w W) => tinderref08_find.calls 1000 D3 d3 (rd_T44 l0 (i : Int)).f3 a2 (plcF l0 (i : Int) a2) W (Kd.C_below hgz hb) hkz (pfind_eq _ a2 (by omega) 1000 (by omega))
  clear hr0 hc0 E1 hpr h0 h1 hz3 hgd hG hgz hkz
  obtain ⟨kk, hkk⟩ : ∃ kk : Int, kk = plcF l0 (i : Int) a2 := ⟨_, rfl⟩
  rw [← hkk] at HPR H
  by_cases hp : kk < 0
  ·rw [if_pos hp] at H
   simp only [Option.some.injEq, Prod.mk.injEq] at H
   obtain ⟨rfl, rfl⟩ := H
   rw [← hkk] at hfn
   have HFN := Aside0.mk hfn
   have dp : decide (kk < 0) = true := decide_eq_true hp
   clear hp hp16 hfn hkk
   go_enter Tryd.func38, Tryd.ntmps38
   go_wp2_with (first
    | (go_at_call 54; (with_reducible refine HWR.out.mono ?_); rintro e w1 ⟨rfl, hb⟩; have HB := Aside0.mk hb; clear hb; have hz3 := (HB.out.cell (World.block_lt_of_cell? _ _ HZ3.out)).trans HZ3.out)
    | (go_at_call 46; (with_reducible refine (HFN.out _ HB.out).mono ?_); rintro e w3 ⟨rfl, hd⟩; have hb := hd.below; replace HB := Aside0.mk (below_step HB.out hb); clear hb hd hz3))
   go_ret2
   exact ⟨_, rfl, Kd.R_nil _ _ _ _ _, HB.out⟩
  ·rw [if_neg hp] at H
   by_cases hs : shortT l0 = true ∧ (rd_T44 l0 (i : Int)).f3.length ≤ 16
   ·rw [if_pos hs] at H
    simp only [Option.some.injEq, Prod.mk.injEq] at H
    obtain ⟨hR1, rfl⟩ := H
    rw [← hkk] at hfn
    have HFN := Aside0.mk hfn
    have HR1 := Aside0.mk hR1
    have dp : decide (kk < 0) = false := decide_eq_false hp
    have hwr : IntKind.i64.wrap (kk + 1) = kk + 1 := (i64_w _).trans (by unfold wrap64; have := HPR.out; omega)
    have hwr2 : wrap64 (kk + 1) = kk + 1 := by unfold wrap64; have := HPR.out; omega
    obtain ⟨nn, hnn⟩ : ∃ nn, nn = (rd_T44 l0 (i : Int)).f3.length := ⟨_, rfl⟩
    have HNN := Aside0.mk hnn
    have HN16 := Aside0.mk (show nn ≤ 16 by omega)
    have HKK := Aside0.mk (show 0 ≤ kk ∧ kk < nn by have := HPR.out; omega)
    clear hp hs hR1 hkk hnn hfn hp16
    go_enter Tryd.func38, Tryd.ntmps38
    go_wp2_with (first
     | (go_at_call 54; (with_reducible refine HWR.out.mono ?_); rintro e w1 ⟨rfl, hb⟩; have HB := Aside0.mk hb; clear hb; have hz3 := (HB.out.cell (World.block_lt_of_cell? _ _ HZ3.out)).trans HZ3.out)
     | (go_at_call 46; (with_reducible refine (HFN.out _ HB.out).mono ?_); rintro e w3 ⟨rfl, hd⟩; have hb := hd.below; replace HB := Aside0.mk (below_step HB.out hb); clear hb hd hz3)
     | (go_at_call 18; (with_reducible refine (refCopyT_calls 1000000000000000000000000000000 _ c0 l0 l0 _ (Kd.C_below HC0.out HB.out) HK0.out HCP.out).mono ?_); rintro e w5 ⟨v5, rfl, ho, hb⟩; replace ho := OT_lower ho HB.out.size; have HB5 := Aside0.mk (below_step HB.out hb); obtain ⟨g, cap, rfl, -, -, -⟩ := Kd.R_form (OT_R ho) (by have := HIL.out; omega); obtain ⟨v1, v3, v4, -, hbg, hgl, hc3, hf3, g1, g3, g4, hset⟩ := OT_lend ho i HIL.out; obtain ⟨gp, bp, rfl, -, hgp, -⟩ := Kd.R_form g3 (by have := HKK.out; have := HNN.out; omega); have HSET := Aside0.mk hset; rw [← HNN.out] at hc3 g3; have G3 := Aside0.mk g3; have HGL5 := Aside0.mk hgl; have HBG := Aside0.mk hbg; have HGP := Aside0.mk hgp; obtain ⟨K, M2, C2, A2, hK, hM2, hA2, kl, kr⟩ := cuts53 gp nn bp kk HKK.out.1 HKK.out.2 (Kd.R_reads' g3).2.1; have HKE := Aside0.mk hK; have HM2 := Aside0.mk hM2; have HA2 := Aside0.mk hA2; have HRW := Aside0.mk (own_reads53 (Kd.R_mono (Kd.R_bound g3) (fun k hk => (⟨hk.1, hk.2.2.1⟩ : k ≠ g ∧ k < w5.heap.size)))); have HNC := Aside0.mk (Kd.R_reads' g3).2.1; clear hb ho g1 g3 g4 hset hgl hbg hgp hK hM2 hA2)
     | ((with_reducible refine gate_builtin (b := .append) (xs := #[.tmp 29, .tmp 36]) rfl ?_); at_builtin; refine Kd.R_append_rows k53 (Rr := k53.M w5 w.heap.size (fun k => k ≠ g ∧ k < w5.heap.size)) (w0 := w) w.heap.size rfl (.tmp 29) (.tmp 36) 42 53 (.agg #[(.string ⟨#[]⟩), (.slice none 0 0)]) 40 rfl Tryd.underlying42 info53 rfl (by decide) (by decide) (.slice none 0 0) ([] : List S53) ((rd_T44 l0 (i : Int)).f3.take K) (some ⟨gp, 0, none⟩) K bp (fun k => k ≠ g) (fun k => k ≠ g ∧ k < w5.heap.size) rfl rfl (Kd.R_nil _ _ _ _ _) (rows_take HRW.out (by have := HKK.out; have := HKE.out; omega)) (fun _ _ h => h) (fun k hk => ⟨hk.1, by simp [Value.ownBlock]⟩) (fun k hk => by have := HGL5.out; omega) HB5.out HB5.out.size (by have := HKK.out; have := HKE.out; have := HN16.out; simp only [List.length_nil]; omega) ?_; intro v6 w6 ho6 hb6 hg6 hat6; obtain ⟨A6, c6, rfl⟩ := Kd.R_slice ho6; have hgn : w6.heap[g]? = w5.heap[g]? := hg6.block g HGL5.out (by simp [Value.ownBlock]); have hc6 := (cell_same (o := i * 5 + 3) hgn).trans hc3; have hf6 : w6.frozen? ⟨g, i * 5 + 3, none⟩ = false := (frozen_same (o := i * 5 + 3) hgn).trans hf3; obtain ⟨n6, hn6⟩ : ∃ n6, n6 = (([] : List S53) ++ (rd_T44 l0 (i : Int)).f3.take K).length := ⟨_, rfl⟩; rw [← hn6] at ho6 hat6 ⊢; have HO6 := Aside0.mk ho6; have HB6 := Aside0.mk hb6; have HG6 := Aside0.mk hg6; have HAT6 := Aside0.mk (fresh_own (b := w5.heap.size) hat6 (Nat.le_refl _)); have HKP6 := Aside0.mk (show ∀ k, k < w5.heap.size → w6.heap[k]? = w5.heap[k]? from fun k hk => hg6.block k hk (by simp [Value.ownBlock])); clear ho6 hb6 hg6 hat6 hgn hc3 hf3 hn6)
     | ((with_reducible refine gate_builtin (b := .append) (xs := #[.tmp 40, .tmp 48]) rfl ?_); at_builtin; refine Kd.R_append_rows k53 (Rr := k53.M w6 w.heap.size (fun k => k ≠ g ∧ k < w5.heap.size)) (w0 := w) w.heap.size rfl (.tmp 40) (.tmp 48) 42 53 (.agg #[(.string ⟨#[]⟩), (.slice none 0 0)]) 40 rfl Tryd.underlying42 info53 rfl (by decide) (by decide) (.slice A6 n6 c6) _ (((rd_T44 l0 (i : Int)).f3.drop (kk.toNat + 1)).take M2) A2 M2 C2 (fun k => k ≠ g) (fun k => k ≠ g ∧ k < w5.heap.size) rfl rfl HO6.out (by rw [HA2.out]; exact rows_cut (rows_move HRW.out HKP6.out HGP.out) HNC.out (kk.toNat + 1) M2 (by have := HKK.out; have := HM2.out; omega)) (fun _ _ h => h) (fun k hk => ⟨hk.1, fun e => by have := HAT6.out k e.symm; omega⟩) (fun k hk => by have := HGL5.out; have := HG6.out.size; omega) HB6.out HB6.out.size (by have := HKK.out; have := HKE.out; have := HM2.out; have := HN16.out; simp only [List.length_append, List.length_nil, List.length_take]; omega) ?_; intro v7 w7 ho7 hb7 hg7 hat7; obtain ⟨A7, c7, rfl⟩ := Kd.R_slice ho7; have hgn : w7.heap[g]? = w6.heap[g]? := hg7.block g (Nat.lt_of_lt_of_le HGL5.out HG6.out.size) (fun e => by have := HAT6.out g e.symm; have := HGL5.out; omega); have hc7 := (cell_same (o := i * 5 + 3) hgn).trans hc6; have hf7 : w7.frozen? ⟨g, i * 5 + 3, none⟩ = false := (frozen_same (o := i * 5 + 3) hgn).trans hf6; generalize hn7 : List.length _ = n7 at ho7 hat7 ⊢; have HO7 := Aside0.mk ho7; have HB7 := Aside0.mk hb7; have HG7 := Aside0.mk hg7; have HAT7 := Aside0.mk hat7; clear ho7 hb7 hg7 hat7 hgn hc6 hf6 hn7)
     | ((with_reducible refine gate_store (t := 42) (p := 51) rfl ?_); refine store_event (t := 42) (p := 51) (v := ?vo) (w1 := w7.setCell ⟨g, i * 5 + 3, none⟩ (.slice A7 n7 c7)) ?hg ?ho ?hn ?hr ?_; (case ho => rfl); (case hg => rfl); (case hn => rfl); (case hr => first | (go_simp; done) | (go_simp; rfl)); intro w8 hw8; have HW8 := Aside0.mk hw8; clear hw8 hc7 hf7))
    obtain ⟨hot, hgr⟩ := HSET.out w7 w8 _ _ HO7.out (fun k hk hk2 => (HG7.out.block k (Nat.lt_of_lt_of_le hk HG6.out.size) (fun e => by have := HAT6.out k e.symm; omega)).trans (HKP6.out k hk)) (fun k hk => .inr (by
     rcases HAT7.out with e | ⟨b, e, hb⟩
     ·rw [e] at hk
      exact HAT6.out k hk
     ·rw [e] at hk
      injection hk with hk
      have := HG6.out.size
      omega)) (.inl HW8.out)
    have hB8 := HB7.out.grown hgr HB7.out.size (fun k hk => by injection hk with hk; have := HBG.out; omega)
    go_ret2
    refine ⟨_, rfl, ?_, hB8⟩
    have h9 := OT_R hot
    rw [← HR1.out]
    unfold withF
    rw [Int.toNat_natCast, List.eraseIdx_eq_take_drop_succ]
    rw [List.nil_append, HKE.out, show (((rd_T44 l0 (i : Int)).f3.drop (kk.toNat + 1)).take M2) = (rd_T44 l0 (i : Int)).f3.drop (kk.toNat + 1) from List.take_of_length_le (by rw [List.length_drop]; have := HM2.out; have := HNN.out; omega)] at h9
    exact h9
   ·rw [if_neg hs] at H
    cases H
 ·rw [if_neg he] at H
  simp only [Option.some.injEq, Prod.mk.injEq] at H
  obtain ⟨rfl, rfl⟩ := H
  have heb : (e0 == 0) = false := beq_eq_false_iff_ne.2 he
  have heb2 : (e0 != 0) = true := bne_iff_ne.2 he
  clear hr0 hc0 E1 he hgd hG
  go_enter Tryd.func38, Tryd.ntmps38
  go_wp2_with (go_at_call 54; (with_reducible refine HWR.out.mono ?_); rintro e w1 ⟨rfl, hb⟩; have HB := Aside0.mk hb; clear hb)
  go_ret2
  exact ⟨_, rfl, Kd.R_nil _ _ _ _ _, HB.out⟩
/-- The reference's Copy, as it is printed. -/
theorem refCopyR_calls (k : Nat) (A0 : Option Addr) (c0 : Nat) (l0 : List (S44)) (r : List (S44)) (w : World) (hr0 : Kd.C k44 w A0 l0.length l0) (hc0 : l0.length ≤ c0) (h : tinderref08_Copy.f k l0 = some r) :
  Calls Tryd.prog 18 #[.slice A0 l0.length c0] w fun e w' => ∃ v0_ : Value, e = .returned (v0_) ∧ Kd.R k44 44 w' w.heap.size (fun _ => True) v0_ r ∧ Below w.heap.size w w' :=
 (refCopyT_calls k A0 c0 l0 r w hr0 hc0 h).mono fun e w' h => by
  obtain ⟨v, he, ho, hb⟩ := h
  exact ⟨v, he, OT_R ho, hb⟩
end Go.Proofs.YtnalcjgefbelnaaDoor.Q
end
section
namespace Go.Proofs.YtnalcjgefbelnaaDoor.Q
open Go.RowKit Go.Proofs.YtnalcjgefbelnaaDoorW.PrintWords Go.Proofs.YtnalcjgefbelnaaDoorW.PrintLast Go.Proofs.YtnalcjgefbelnaaDoorW.PrintMore
set_option linter.unusedVariables false
set_option linter.unusedSimpArgs false

attribute [local go_sem] max2_int min2_int max_two min_two max_three min_three max_four min_four
/-! ### tree_New: function 16 -/
def tree_New.f  : Option ((List (S44))) := some (([(⟨(⟨#[]⟩ : ByteArray), ([] : List Int), (-1), ([] : List (S53)), ([] : List Int)⟩ : S44)] : List (S44)))
set_option maxHeartbeats 8000000 in
set_option maxRecDepth 100000 in
theorem tree_New.calls  (r : List (S44)) (w : World) (h : tree_New.f  = some r) :
  Calls Tryd.prog 16 #[] w fun e w' => ∃ v0_ : Value, e = .returned (v0_) ∧ Kd.R k44 44 w' w.heap.size (fun _ => True) v0_ r ∧ Below w.heap.size w w' := by
 have hu44 := Tryd.underlying44
 have HB := Aside0.mk (Below.refl w.heap.size w)
 have H : (some (([(⟨(⟨#[]⟩ : ByteArray), ([] : List Int), (-1), ([] : List (S53)), ([] : List Int)⟩ : S44)] : List (S44)))) = some r := h
 clear h
 obtain ⟨y17001, hy17001⟩ : ∃ y_ : List (S44), y_ = (([(⟨(⟨#[]⟩ : ByteArray), ([] : List Int), (-1), ([] : List (S53)), ([] : List Int)⟩ : S44)] : List (S44))) := ⟨_, rfl⟩
 replace H : (some y17001) = some r := by first | (rw [hy17001]; with_reducible exact H) | (have H2_ := (Option.bind_some _ _).symm.trans H; rw [hy17001]; with_reducible exact H2_) | (have H2_ := (Option.bind_some _ _).symm.trans H; with_reducible exact H2_) | with_reducible exact H | (rw [hy17001]; exact H) | exact H
 have Ny17001 := Aside0.mk hy17001
 clear hy17001
 obtain rfl := Option.some.inj H
 go_enter Tryd.func16, Tryd.ntmps16
 go_wp2_with (first | ((with_reducible refine gate_dst (N := 2) rfl ?_); refine Kd.R_lit k44 _ 44 ?hg (N := 2) ?hd (xs := ([(⟨(⟨#[]⟩ : ByteArray), ([] : List Int), (-1), ([] : List (S53)), ([] : List Int)⟩ : S44)] : List (S44))) (inner := [.string (⟨#[]⟩ : ByteArray), .slice none 0 0, .int .i64 (-1), .slice none 0 0, .slice none 0 0]) (ok := fun _ => True) (okp := fun _ => True) ?hr ?hp (fun _ hk => hk) trivial (Below.refl _ _) (Nat.le_refl _) (by simp) ?_; (case hd => rfl); (case hg => rfl); (case hr => first | (go_simp; done) | (go_simp; rfl)); (case hp => exact (Reps.c5 (show Kd.M k44 _ _ _ (⟨(⟨#[]⟩ : ByteArray), ([] : List Int), (-1), ([] : List (S53)), ([] : List Int)⟩ : S44) [.string (⟨#[]⟩ : ByteArray), .slice none 0 0, .int .i64 (-1), .slice none 0 0, .slice none 0 0] from (k44_mkM _ _ _ (⟨(⟨#[]⟩ : ByteArray), ([] : List Int), (-1), ([] : List (S53)), ([] : List Int)⟩ : S44) (Kd.R_nil _ _ _ _ _) (Kd.R_nil _ _ _ _ _) (Kd.R_nil _ _ _ _ _))) (Reps.none _ _))); intro v17002 w1 ho2 hb hg_ hnew_; clear hg_ hnew_; (first | rw [← Ny17001.out] at ho2 | (simp only [Int.reduceToNat] at ho2; rw [← Ny17001.out] at ho2)); have n0_ := Aside0.mk (Kd.R_lower ho2 (below_size (by repeat (first | (with_reducible first | exact HB.out | apply below_alloc | apply pw_below_drewN | apply below_drew1) | exact HB.out)))); have n1_ := Aside0.mk (below_step (by repeat (first | (with_reducible first | exact HB.out | apply below_alloc | apply pw_below_drewN | apply below_drew1) | exact HB.out)) hb); clear HB; have HO17003 := n0_; have HB := n1_; clear n0_ n1_; clear hb ho2))
 go_ret
 exact ⟨_, by first | rfl | (simp [errW_none, errW_some] <;> rfl) | (simp [*, errW_none, errW_some] <;> rfl), by (with_reducible repeat (first | apply Kd.R_alloc | apply Kd.R_drewN | apply Kd.R_drew)); exact HO17003.out, by repeat (first | (with_reducible first | exact HB.out | apply below_alloc | apply pw_below_drewN | apply below_drew1) | exact HB.out)⟩

end Go.Proofs.YtnalcjgefbelnaaDoor.Q
end
section
set_option linter.unusedSimpArgs false
set_option linter.unusedVariables false
namespace Go.Proofs.YtnalcjgefbelnaaDoor.Q
open Go.RowKit Go.Proofs.YtnalcjgefbelnaaDoorW.PrintWords Go.Proofs.YtnalcjgefbelnaaDoorW.PrintLast Go.Proofs.YtnalcjgefbelnaaDoorW.PrintMore
attribute [local go_sem] max2_int min2_int max_two min_two max_three min_three max_four min_four
theorem info49s : (Tryd.prog.info? 49).map (·.size) = some 3 := by kernel_rfl
theorem seg_row (cur cs : List Value) (sz i k : Nat) (hc : cs.length = sz) (hl : i * sz + sz ≤ cur.length) : seg (cur.take (i * sz) ++ cs ++ cur.drop (i * sz + cs.length)) sz k = if k = i then cs else seg cur sz k := by
 apply List.ext_getElem?
 intro t
 by_cases ht : t < sz
 ·rw [seg_get _ _ _ _ ht]
  have hlt : (cur.take (i * sz)).length = i * sz := by rw [List.length_take]; omega
  rcases Nat.lt_trichotomy k i with hk | hk | hk
  ·have h1 := Nat.mul_le_mul_right sz (show k + 1 ≤ i from hk)
   rw [Nat.add_mul, Nat.one_mul] at h1
   rw [if_neg (by omega), seg_get _ _ _ _ ht, List.append_assoc, List.getElem?_append_left (by omega), List.getElem?_take, if_pos (by omega)]
  ·subst hk
   rw [if_pos rfl, List.append_assoc, List.getElem?_append_right (by omega), hlt, Nat.add_sub_cancel_left, List.getElem?_append_left (by omega)]
  ·have h1 := Nat.mul_le_mul_right sz (show i + 1 ≤ k from hk)
   rw [Nat.add_mul, Nat.one_mul] at h1
   rw [if_neg (by omega), seg_get _ _ _ _ ht, List.getElem?_append_right (by rw [List.length_append, hlt]; omega), List.getElem?_drop, List.length_append, hlt]
   congr 1
   omega
 ·have h1 : ∀ c : List Value, (seg c sz k)[t]? = none := fun c => by unfold seg; rw [List.getElem?_take, if_neg ht]
  rw [h1]
  split
  ·exact (List.getElem?_eq_none (by omega)).symm
  ·exact (h1 _).symm
theorem store_run {P : Program} {o : Oper} {a : Act} {W : World} (t : TypeId) (p x : Operand) (ho : o.op = .store t p x) {g off : Nat} {cs : Array Value} {e : TypeId} (u : Value) (seg : List Value) (haddr : a.eval p = .pointer (some ⟨g, off, none⟩)) (hx : a.eval x = u) (hu : u.cells.toList = seg) (ht : (P.info? t).map (·.size) = some seg.length) (h1 : ∀ q ∈ seg, q.oneCell' = true)
  (hh : W.heap[g]? = some (.cells cs e (0, 0))) (hsz : off + seg.length ≤ cs.size) : (execOp a.eval o).run P W = .ok .skip (W.setCells g off seg) := by
 have hrun := run_store_run (P := P) t u seg hh hu ht hsz h1
 unfold execOp
 simp only [ho, haddr, hx, Sem.run_bind, Sem.run_pure, Result.andThen_ok, hrun]
theorem cell_seg {W : World} {g t sz k m : Nat} {cur : Array Value} {c : List Value} {u : Value} (hh : W.heap[g]? = some (.cells cur t (0, 0))) (hs : seg cur.toList sz k = c) (hm : m < sz) (hu : c[m]? = some u) : W.cell? ⟨g, k * sz + m, none⟩ = some u := by
 rw [blk_cell hh, ← Array.getElem?_toList, ← seg_get _ _ _ _ hm, hs]
 exact hu
set_option maxHeartbeats 8000000 in
set_option maxRecDepth 100000 in
theorem reverse_calls (g n cap : Nat) (cur0 : Array Value) (w : World) (hh : w.heap[g]? = some (.cells cur0 49 (0, 0))) (hs : cur0.size = cap * 3) (hnc : n ≤ cap) (hn : n ≤ 1000000) (hshape : ∀ k, k < n → ∃ s A m c t, seg cur0.toList 3 k = [.string s, .slice A m c, .string t]) :
  Calls Tryd.prog 58 #[.slice (some ⟨g, 0, none⟩) n cap] w fun e w' => (∃ v, e = .returned v) ∧ ∃ cur', w'.heap[g]? = some (.cells cur' 49 (0, 0)) ∧ cur'.size = cur0.size ∧ (∀ k, k < n → seg cur'.toList 3 k = seg cur0.toList 3 (n - 1 - k)) ∧ w.grownBy w' (some g) := by
 have hu49 := Tryd.underlying49
 have mixed : Tryd.prog.follows Departure.mixedOrders = true := by kernel_rfl
 have HH := Aside0.mk hh
 have HS := Aside0.mk hs
 have HNC := Aside0.mk hnc
 have HN := Aside0.mk hn
 have HSH := Aside0.mk hshape
 have hw0 : wrap64 ((n : Int) - 1) = (n : Int) - 1 := by unfold wrap64; omega
 have HW0 := Aside0.mk hw0
 clear hh hs hnc hn hshape hw0
 go_enter Tryd.func58, Tryd.ntmps58
 go_wp2
 rw [HW0.out]
 go_loopg [2, 3] n (fun kq v2 v3 w' => ∃ i : Nat, v2 = .int .i64 i ∧ v3 = .int .i64 ((n : Int) - 1 - i) ∧ Aside0 (i + kq = n) ∧ Aside0 (∃ cur', w'.heap[g]? = some (.cells cur' 49 (0, 0)) ∧ cur'.size = cur0.size ∧ (∀ k, k < n → seg cur'.toList 3 k = if k < i ∨ n - 1 - k < i then seg cur0.toList 3 (n - 1 - k) else seg cur0.toList 3 k) ∧ w.grownBy w' (some g)))
 case atStart => exact ⟨0, rfl, by simp, ⟨by omega⟩, ⟨cur0, HH.out, rfl, fun k _ => by rw [if_neg (by omega)], World.grownBy.refl _ _⟩⟩
 case round =>
  obtain ⟨i, rfl, rfl, HI, HP⟩ := hrel
  by_cases hlt : (i : Int) < (n : Int) - 1 - i
  ·have dl : decide ((i : Int) < (n : Int) - 1 - i) = true := decide_eq_true hlt
   obtain ⟨kq, rfl⟩ : ∃ k, gk = k + 1 := ⟨gk - 1, by have := HI.out; omega⟩
   have hi := HI.out
   obtain ⟨j, hj⟩ : ∃ j : Nat, j = n - 1 - i := ⟨_, rfl⟩
   have hje : (n : Int) - 1 - (i : Int) = (j : Int) := by omega
   rw [hje]
   rw [hje] at dl hlt
   have HJ := Aside0.mk hj
   have hij : i < j := by omega
   have hjn : j < n := by omega
   have HIJ := Aside0.mk (⟨hij, hjn⟩ : i < j ∧ j < n)
   obtain ⟨cur', h1, h2, h3, h4⟩ := HP.out
   obtain ⟨s1, B1, m1, b1, t1, e1⟩ := HSH.out i (by omega)
   obtain ⟨s2, B2, m2, b2, t2, e2⟩ := HSH.out j (by omega)
   have f1 : seg cur'.toList 3 i = [.string s1, .slice B1 m1 b1, .string t1] := by rw [h3 i (by omega), if_neg (by omega), e1]
   have f2 : seg cur'.toList 3 j = [.string s2, .slice B2 m2 b2, .string t2] := by rw [h3 j (by omega), if_neg (by omega), e2]
   have i0 : wr.cell? ⟨g, i * 3, none⟩ = some (.string s1) := cell_seg (m := 0) h1 f1 (by decide) rfl
   have i1 : wr.cell? ⟨g, i * 3 + 1, none⟩ = some (.slice B1 m1 b1) := cell_seg (m := 1) h1 f1 (by decide) rfl
   have i2 : wr.cell? ⟨g, i * 3 + 2, none⟩ = some (.string t1) := cell_seg (m := 2) h1 f1 (by decide) rfl
   have j0 : wr.cell? ⟨g, j * 3, none⟩ = some (.string s2) := cell_seg (m := 0) h1 f2 (by decide) rfl
   have j1 : wr.cell? ⟨g, j * 3 + 1, none⟩ = some (.slice B2 m2 b2) := cell_seg (m := 1) h1 f2 (by decide) rfl
   have j2 : wr.cell? ⟨g, j * 3 + 2, none⟩ = some (.string t2) := cell_seg (m := 2) h1 f2 (by decide) rfl
   have H1 := Aside0.mk h1
   have H2 := Aside0.mk h2
   have H3 := Aside0.mk h3
   have H4 := Aside0.mk h4
   have E1 := Aside0.mk e1
   have E2 := Aside0.mk e2
   have p1 : (0 ≤ (i : Int)) = True := eq_true (by omega)
   have p2 : ((i : Int) < (n : Int)) = True := eq_true (by omega)
   have p3 : (0 ≤ (j : Int)) = True := eq_true (by omega)
   have p4 : ((j : Int) < (n : Int)) = True := eq_true (by omega)
   have p5 : decide (i < j) = true := decide_eq_true hij
   have p6 : (i < n) = True := eq_true (by omega)
   have p7 : (j < n) = True := eq_true hjn
   have hi1 : wrap64 ((i : Int) + 1) = ((i + 1 : Nat) : Int) := by unfold wrap64; have := HN.out; omega
   have hj1 : wrap64 ((j : Int) - 1) = (n : Int) - 1 - ((i + 1 : Nat) : Int) := by unfold wrap64; have := HN.out; omega
   have HI1 := Aside0.mk hi1
   have HJ1 := Aside0.mk hj1
   clear h1 h2 h3 h4 e1 e2 f1 f2 hi hj hje hij hjn hlt hi1 hj1
   go_wp2
   refine start_ (n := 16) (S := fun w' => (w'.cell? ⟨g, j * 3, none⟩ = some (.string s2) ∧ w'.cell? ⟨g, j * 3 + 1, none⟩ = some (.slice B2 m2 b2) ∧ w'.cell? ⟨g, j * 3 + 2, none⟩ = some (.string t2)) ∧ (w'.cell? ⟨g, i * 3, none⟩ = some (.string s1) ∧ w'.cell? ⟨g, i * 3 + 1, none⟩ = some (.slice B1 m1 b1) ∧ w'.cell? ⟨g, i * 3 + 2, none⟩ = some (.string t1))) (ds := [13, 15]) #[false, false, false, false, false, false, false, false, false, false, false, false, false, false, false, false] (by kernel_rfl) rfl rfl ⟨⟨j0, j1, j2⟩, ⟨i0, i1, i2⟩⟩ (fun hHeld => ?_)
   refine pure_ (i := 0) (N := some 14) (v := ?_) (a' := ?_) #[true, false, false, false, false, false, false, false, false, false, false, false, false, false, false, false] rfl rfl (by kernel_rfl) (fun _ _ _ h => h) (Or.inl ⟨by rfl, ?_⟩) ?_ ?_
   rotate_left
   ·intro w'
    go_simp
    with_reducible rfl
   rotate_left
   ·simp only [Act.put, List.setIfInBounds_toArray, List.set_cons_zero, List.set_cons_succ]
    rfl
   refine pure_ (i := 1) (N := some 15) (v := ?_) (a' := ?_) #[true, true, false, false, false, false, false, false, false, false, false, false, false, false, false, false] rfl rfl (by kernel_rfl) (fun _ _ _ h => h) (Or.inl ⟨by rfl, ?_⟩) ?_ ?_
   rotate_left
   ·intro w'
    go_simp
    with_reducible rfl
   rotate_left
   ·simp only [Act.put, List.setIfInBounds_toArray, List.set_cons_zero, List.set_cons_succ]
    rfl
   refine pure_ (i := 2) (N := some 16) (v := ?_) (a' := ?_) #[true, true, true, false, false, false, false, false, false, false, false, false, false, false, false, false] rfl rfl (by kernel_rfl) (fun _ _ _ h => h) (Or.inl ⟨by rfl, ?_⟩) ?_ ?_
   rotate_left
   ·intro w'
    go_simp
    with_reducible rfl
   rotate_left
   ·simp only [Act.put, List.setIfInBounds_toArray, List.set_cons_zero, List.set_cons_succ]
    rfl
   refine pure_ (i := 3) (N := some 17) (v := ?_) (a' := ?_) #[true, true, true, true, false, false, false, false, false, false, false, false, false, false, false, false] rfl rfl (by kernel_rfl) (fun _ _ _ h => h) (Or.inl ⟨by rfl, ?_⟩) ?_ ?_
   rotate_left
   ·intro w'
    go_simp
    with_reducible rfl
   rotate_left
   ·simp only [Act.put, List.setIfInBounds_toArray, List.set_cons_zero, List.set_cons_succ]
    rfl
   refine pure_ (i := 4) (N := some 18) (v := ?_) (a' := ?_) #[true, true, true, true, true, false, false, false, false, false, false, false, false, false, false, false] rfl rfl (by kernel_rfl) (fun _ _ _ h => h) (Or.inl ⟨by rfl, ?_⟩) ?_ ?_
   rotate_left
   ·intro w'
    go_simp
    with_reducible rfl
   rotate_left
   ·simp only [Act.put, List.setIfInBounds_toArray, List.set_cons_zero, List.set_cons_succ]
    rfl
   refine pure_ (i := 5) (N := some 19) (v := ?_) (a' := ?_) #[true, true, true, true, true, true, false, false, false, false, false, false, false, false, false, false] rfl rfl (by kernel_rfl) (fun _ _ _ h => h) (Or.inl ⟨by rfl, ?_⟩) ?_ ?_
   rotate_left
   ·intro w'
    go_simp
    with_reducible rfl
   rotate_left
   ·simp only [Act.put, List.setIfInBounds_toArray, List.set_cons_zero, List.set_cons_succ]
    rfl
   refine pure_ (i := 6) (N := some 20) (v := ?_) (a' := ?_) #[true, true, true, true, true, true, true, false, false, false, false, false, false, false, false, false] rfl rfl (by kernel_rfl) (fun _ _ _ h => h) (Or.inl ⟨by rfl, ?_⟩) ?_ ?_
   rotate_left
   ·intro w'
    go_simp
    with_reducible rfl
   rotate_left
   ·simp only [Act.put, List.setIfInBounds_toArray, List.set_cons_zero, List.set_cons_succ]
    rfl
   refine pure_ (i := 8) (N := some 22) (v := ?_) (a' := ?_) #[true, true, true, true, true, true, true, false, true, false, false, false, false, false, false, false] rfl rfl (by kernel_rfl) (fun _ _ _ h => h) (Or.inl ⟨by rfl, ?_⟩) ?_ ?_
   rotate_left
   ·intro w'
    go_simp
    with_reducible rfl
   rotate_left
   ·simp only [Act.put, List.setIfInBounds_toArray, List.set_cons_zero, List.set_cons_succ]
    rfl
   refine pure_ (i := 9) (N := some 23) (v := ?_) (a' := ?_) #[true, true, true, true, true, true, true, false, true, true, false, false, false, false, false, false] rfl rfl (by kernel_rfl) (fun _ _ _ h => h) (Or.inl ⟨by rfl, ?_⟩) ?_ ?_
   rotate_left
   ·intro w'
    go_simp
    with_reducible rfl
   rotate_left
   ·simp only [Act.put, List.setIfInBounds_toArray, List.set_cons_zero, List.set_cons_succ]
    rfl
   refine pure_ (i := 10) (N := some 24) (v := ?_) (a' := ?_) #[true, true, true, true, true, true, true, false, true, true, true, false, false, false, false, false] rfl rfl (by kernel_rfl) (fun _ _ _ h => h) (Or.inl ⟨by rfl, ?_⟩) ?_ ?_
   rotate_left
   ·intro w'
    go_simp
    with_reducible rfl
   rotate_left
   ·simp only [Act.put, List.setIfInBounds_toArray, List.set_cons_zero, List.set_cons_succ]
    rfl
   refine take_ (i := 7) (N := some 21) (v := (.agg #[.string s2, .slice B2 m2 b2, .string t2])) (a' := ?_) #[true, true, true, true, true, true, true, true, true, true, true, false, false, false, false, false] rfl rfl (by kernel_rfl) (fun _ _ _ h => h) (Or.inl ⟨by rfl, ?_⟩) hHeld ?_ ?_
   rotate_left
   rotate_left
   ·simp only [Act.put, List.setIfInBounds_toArray, List.set_cons_zero, List.set_cons_succ]
    rfl
   rotate_left
   ·rintro w' ⟨⟨y0, y1, y2⟩, ⟨x0, x1, x2⟩⟩
    go_simp
   refine take_ (i := 11) (N := some 25) (v := (.agg #[.string s1, .slice B1 m1 b1, .string t1])) (a' := ?_) #[true, true, true, true, true, true, true, true, true, true, true, true, false, false, false, false] rfl rfl (by kernel_rfl) (fun _ _ _ h => h) (Or.inl ⟨by rfl, ?_⟩) hHeld ?_ ?_
   rotate_left
   rotate_left
   ·simp only [Act.put, List.setIfInBounds_toArray, List.set_cons_zero, List.set_cons_succ]
    rfl
   rotate_left
   ·rintro w' ⟨⟨y0, y1, y2⟩, ⟨x0, x1, x2⟩⟩
    go_simp
   refine pure_ (i := 12) (N := some 26) (v := ?_) (a' := ?_) #[true, true, true, true, true, true, true, true, true, true, true, true, true, false, false, false] rfl rfl (by kernel_rfl) (fun _ _ _ h => h) (Or.inl ⟨by rfl, ?_⟩) ?_ ?_
   rotate_left
   ·intro w'
    go_simp
    with_reducible rfl
   rotate_left
   ·simp only [Act.put, List.setIfInBounds_toArray, List.set_cons_zero, List.set_cons_succ]
    rfl
   have hsz : j * 3 + 3 ≤ cur'.size := by have h2 := H2.out; have hs := HS.out; have hnc := HNC.out; have hij := HIJ.out; omega
   refine last_ (i := 13) (N := none) #[true, true, true, true, true, true, true, true, true, true, true, true, true, true, false, false] rfl rfl (by kernel_rfl) (by decide) (fun K hK => ?_)
   refine skip_ (w1 := wr.drew.setCells g (i * 3) [.string s2, .slice B2 m2 b2, .string t2]) (by rfl) rfl (store_run 49 (.tmp 26) (.tmp 21) rfl (.agg #[.string s2, .slice B2 m2 b2, .string t2]) [.string s2, .slice B2 m2 b2, .string t2] (by rfl) (by rfl) rfl info49s (by simp [Value.oneCell']) (show wr.drew.heap[g]? = _ from H1.out) (by show i * 3 + 3 ≤ _; have h2 := H2.out; have hs := HS.out; have hnc := HNC.out; have hij := HIJ.out; omega)) ?_
   refine hK.out _ _ ?_
   obtain ⟨cur5, hh5, hs5, ht5⟩ := setCells_row [.string s2, .slice B2 m2 b2, .string t2] (i * 3) wr.drew cur' H1.out (by show i * 3 + 3 ≤ _; have hij := HIJ.out; omega)
   have g5 : w.grownBy (wr.drew.setCells g (i * 3) [.string s2, .slice B2 m2 b2, .string t2]) (some g) := (H4.out.trans (grown_of_below (below_drew (Below.refl _ _)) _)).trans ⟨(setCells_same g _ _ _).1, (setCells_same g _ _ _).2.1, (setCells_same g _ _ _).2.2.1, Nat.le_of_eq (setCells_same g _ _ _).2.2.2.symm, fun k _ hk => setCells_far _ _ k (fun e => hk (by rw [e]))⟩
   generalize wr.drew.setCells g (i * 3) [.string s2, .slice B2 m2 b2, .string t2] = w5 at hh5 g5 ⊢
   clear hK K
   refine pure_ (i := 14) (N := some 27) (v := ?_) (a' := ?_) #[true, true, true, true, true, true, true, true, true, true, true, true, true, true, true, false] rfl rfl (by kernel_rfl) (fun _ _ _ h => h) (Or.inl ⟨by rfl, ?_⟩) ?_ ?_
   rotate_left
   ·intro w'
    go_simp
    with_reducible rfl
   rotate_left
   ·simp only [Act.put, List.setIfInBounds_toArray, List.set_cons_zero, List.set_cons_succ]
    rfl
   refine last_ (i := 15) (N := none) #[true, true, true, true, true, true, true, true, true, true, true, true, true, true, true, true] rfl rfl (by kernel_rfl) (by decide) (fun K hK => ?_)
   refine skip_ (w1 := w5.setCells g (j * 3) [.string s1, .slice B1 m1 b1, .string t1]) (by rfl) rfl (store_run 49 (.tmp 27) (.tmp 25) rfl (.agg #[.string s1, .slice B1 m1 b1, .string t1]) [.string s1, .slice B1 m1 b1, .string t1] (by rfl) (by rfl) rfl info49s (by simp [Value.oneCell']) hh5 (by show j * 3 + 3 ≤ _; have h2 := H2.out; have hs := HS.out; have hnc := HNC.out; have hij := HIJ.out; omega)) ?_
   refine hK.out _ _ ?_
   obtain ⟨cur6, hh6, hs6, ht6⟩ := setCells_row [.string s1, .slice B1 m1 b1, .string t1] (j * 3) w5 cur5 hh5 (by show j * 3 + 3 ≤ _; omega)
   have g6 : w.grownBy (w5.setCells g (j * 3) [.string s1, .slice B1 m1 b1, .string t1]) (some g) := g5.trans ⟨(setCells_same g _ _ _).1, (setCells_same g _ _ _).2.1, (setCells_same g _ _ _).2.2.1, Nat.le_of_eq (setCells_same g _ _ _).2.2.2.symm, fun k _ hk => setCells_far _ _ k (fun e => hk (by rw [e]))⟩
   generalize w5.setCells g (j * 3) [.string s1, .slice B1 m1 b1, .string t1] = w6 at hh6 g6 ⊢
   clear hK K
   refine done_ (n := 0) (by kernel_rfl) ?_
   go_wp2
   rw [HI1.out, HJ1.out]
   go_roundg kq
   case measure => omega
   case rel =>
    have hi := HI.out
    have hij := HIJ.out
    have hj := HJ.out
    refine ⟨i + 1, rfl, rfl, ⟨by omega⟩, ⟨cur6, hh6, by have := H2.out; omega, fun k hk => ?_, g6⟩⟩
    have a1 := seg_row cur5.toList [.string s1, .slice B1 m1 b1, .string t1] 3 j k rfl (by rw [Array.length_toList]; omega)
    have a2 := seg_row cur'.toList [.string s2, .slice B2 m2 b2, .string t2] 3 i k rfl (by rw [Array.length_toList]; omega)
    rw [← ht6] at a1
    rw [← ht5] at a2
    rw [a1, a2, H3.out k hk]
    by_cases hkj : k = j
    ·rw [if_pos hkj, if_pos (by omega), show n - 1 - k = i by omega, E1.out]
    ·rw [if_neg hkj]
     by_cases hki : k = i
     ·rw [if_pos hki, if_pos (by omega), show n - 1 - k = j by omega, E2.out]
     ·rw [if_neg hki]
      by_cases hc : k < i ∨ n - 1 - k < i
      ·rw [if_pos hc, if_pos (by omega)]
      ·rw [if_neg hc, if_neg (by omega)]
  ·have dl : decide ((i : Int) < (n : Int) - 1 - i) = false := decide_eq_false hlt
   obtain ⟨cur', h1, h2, h3, h4⟩ := HP.out
   go_wp2
   go_end0
   refine ⟨⟨_, rfl⟩, cur', h1, h2, fun k hk => ?_, h4⟩
   rw [h3 k hk]
   split
   ·rfl
   ·rw [show n - 1 - k = k by omega]
end Go.Proofs.YtnalcjgefbelnaaDoor.Q
end
section
namespace Go.Proofs
open Go.Shelf
def Tryd.lays156_ren : Go.Shelf.Ren := ⟨fun | 156 => 83 | 165 => 91 | 166 => 71 | 169 => 74 | 240 => 81 | 241 => 97 | 276 => 88 | 277 => 104 | n => n, fun | 31 => 107 | 9 => 9 | 3 => 3 | 4 => 4 | 0 => 0 | 20 => 20 | 72 => 94 | 76 => 98 | 70 => 92 | 37 => 28 | 75 => 97 | 127 => 110 | 164 => 113 | 5 => 5 | 80 => 102 | n => n, fun | n => n⟩
theorem Tryd.lays156 : Go.Proofs.Lays.n156 Tryd.prog Tryd.lays156_ren := {
 mixed := by kernel_rfl
 f156 := Tryd.func83.trans (congrArg some (by kernel_rfl))
 f165 := Tryd.func91.trans (congrArg some (by kernel_rfl))
 f166 := Tryd.func71.trans (congrArg some (by kernel_rfl))
 f169 := Tryd.func74.trans (congrArg some (by kernel_rfl))
 f240 := Tryd.func81.trans (congrArg some (by kernel_rfl))
 f241 := Tryd.func97.trans (congrArg some (by kernel_rfl))
 f276 := Tryd.func88.trans (congrArg some (by kernel_rfl))
 f277 := Tryd.func104.trans (congrArg some (by kernel_rfl))
 t0 := Tryd.underlying0
 a0 := Tryd.isAgg0
 z0 := Tryd.sizeOf0
 v0 := Tryd.zeroValue0
 t3 := Tryd.underlying3
 a3 := Tryd.isAgg3
 z3 := Tryd.sizeOf3
 v3 := Tryd.zeroValue3
 t4 := Tryd.underlying4
 a4 := Tryd.isAgg4
 z4 := Tryd.sizeOf4
 v4 := Tryd.zeroValue4
 t9 := Tryd.underlying9
 a9 := Tryd.isAgg9
 z9 := Tryd.sizeOf9
 v9 := Tryd.zeroValue9
 t20 := Tryd.underlying20
 a20 := Tryd.isAgg20
 z20 := Tryd.sizeOf20
 v20 := Tryd.zeroValue20
 t31 := Tryd.underlying107
 a31 := Tryd.isAgg107
 z31 := Tryd.sizeOf107
 v31 := Tryd.zeroValue107
 t37 := Tryd.underlying28
 a37 := Tryd.isAgg28
 z37 := Tryd.sizeOf28
 v37 := Tryd.zeroValue28
 t70 := Tryd.underlying92
 a70 := Tryd.isAgg92
 z70 := Tryd.sizeOf92
 v70 := Tryd.zeroValue92
 t72 := Tryd.underlying94
 a72 := Tryd.isAgg94
 z72 := Tryd.sizeOf94
 v72 := Tryd.zeroValue94
 t75 := Tryd.underlying97
 a75 := Tryd.isAgg97
 z75 := Tryd.sizeOf97
 v75 := Tryd.zeroValue97
 t76 := Tryd.underlying98
 a76 := Tryd.isAgg98
 z76 := Tryd.sizeOf98
 v76 := Tryd.zeroValue98
 t127 := Tryd.underlying110
 a127 := Tryd.isAgg110
 z127 := Tryd.sizeOf110
 v127 := Tryd.zeroValue110
 t164 := Tryd.underlying113
 a164 := Tryd.isAgg113
 z164 := Tryd.sizeOf113
 v164 := Tryd.zeroValue113 }
theorem Tryd.Builder_Extra_156 : Builder.Extra Tryd.prog Tryd.lays156_ren := {
 sizeBuilder := by kernel_rfl
 liesBuilder := by kernel_rfl
 t5 := Tryd.underlying5
 a5 := Tryd.isAgg5
 z5 := Tryd.sizeOf5
 v5 := Tryd.zeroValue5
 infoByte := by kernel_rfl
 cellsByte := by kernel_rfl
 sizeByte := by kernel_rfl
 neB5 := by decide }
open Go.RowKit in
/-- No element: the empty string; the world is as it was. (Whatever the slice's address and capacity: a nil slice too.) (LAID: no walk: one application.) -/
theorem Tryd.strings_Join_none (a : Option Addr) (c : Nat) (sep : ByteArray) (w : World) :
  Calls Tryd.prog 83 #[.slice a 0 c, .string sep] w fun e w' => e = .returned (.string ⟨#[]⟩) ∧ w' = w := Any.strings_Join_none Tryd.lays156 Tryd.Builder_Extra_156 a c sep w
open Go.RowKit in
/-- strings.Join: "Join concatenates the elements of its first argument to create a single string. The separator string sep is placed between elements in the resulting string.": HOWEVER MANY ELEMENTS. Below the heap's end the world is as it was. (LAID: no walk: one application.) -/
theorem Tryd.strings_Join (bk o c : Nat) (xs : List ByteArray) (sep : ByteArray) (w : World) (hcells : ∀ (j : Nat) x, xs[j]? = some x → w.cell? ⟨bk, o + j, none⟩ = some (.string x)) (hbk : bk < w.heap.size) (hN : xs.length ≤ 140737488355328) (hcap : xs.length ≤ c) (hlen : (Lib.join (xs.map (·.data.toList)) sep.data.toList).length ≤ 140737488355328) :
  Calls Tryd.prog 83 #[.slice (some ⟨bk, o, none⟩) xs.length c, .string sep] w fun e w' => e = .returned (.string ⟨(Lib.join (xs.map (·.data.toList)) sep.data.toList).toArray⟩) ∧ Below w.heap.size w w' := Any.strings_Join Tryd.lays156 Tryd.Builder_Extra_156 bk o c xs sep w hcells hbk hN hcap hlen
end Go.Proofs
end
section
set_option linter.unusedSimpArgs false
set_option linter.unusedVariables false
namespace Go.Proofs.YtnalcjgefbelnaaDoor.Q
open Go.RowKit Go.Shelf Go.Proofs.YtnalcjgefbelnaaDoorW.PrintWords Go.Proofs.YtnalcjgefbelnaaDoorW.PrintLast
set_option maxHeartbeats 1000000 in
set_option maxRecDepth 100000 in
theorem copyCheck_used (b : Nat) (w : World) (h0 : w.cell? ⟨b, 0, none⟩ = some (.pointer (some ⟨b, 0, none⟩))) :
  Calls Tryd.prog 81 #[.pointer (some ⟨b, 0, none⟩)] w fun e w' => e = .returned (.tuple #[]) ∧ w' = w := by
 obtain ⟨j, hj, _⟩ := Option.map_eq_some_iff.1 Tryd.Builder_Extra_156.sizeBuilder
 go_enter Tryd.func81, Tryd.ntmps81
 go_wp2
 rw [Lib.run_neq_ptr_same w _ Tryd.underlying92 hj]
 go_wp2
 go_end0
 exact ⟨rfl, rfl⟩
set_option maxHeartbeats 1000000 in
set_option maxRecDepth 100000 in
theorem copyCheck_fresh (b : Nat) (w : World) (h0 : w.cell? ⟨b, 0, none⟩ = some (.pointer none)) (hsh : w.shape? b = some (94, 2)) (hfz : w.frozen? ⟨b, 0, none⟩ = false) :
  Calls Tryd.prog 81 #[.pointer (some ⟨b, 0, none⟩)] w fun e w' => e = .returned (.tuple #[]) ∧ w' = w.setCell ⟨b, 0, none⟩ (.pointer (some ⟨b, 0, none⟩)) := by
 obtain ⟨j, hj, hjs⟩ := Option.map_eq_some_iff.1 Tryd.Builder_Extra_156.sizeBuilder
 go_enter Tryd.func81, Tryd.ntmps81
 go_wp2
 rw [Lib.run_to_unsafe w ⟨b, 0, none⟩ Tryd.underlying92 Tryd.underlying113 hj (by rw [hjs]; decide) hsh (Nat.zero_lt_succ 1)]
 simp only [Result.andThen]
 rw [Oper.upon_value]
 go_wp2
 rw [run_callFunc_extern Tryd.func88 (by kernel_rfl) (by kernel_rfl) (by kernel_rfl) (e := Extern.AbiNoEscape.same) (by kernel_rfl)]
 rw [Lib.run_noEscape]
 simp only [Result.andThen]
 rw [Oper.upon_value]
 go_wp2
 rw [Lib.run_from_unsafe w ⟨b, 0, none⟩ Tryd.underlying113 Tryd.underlying92 hj hsh Tryd.Builder_Extra_156.liesBuilder]
 simp only [Result.andThen]
 rw [Oper.upon_value]
 go_wp2
 go_end0
 exact ⟨rfl, rfl⟩
/-- All blocks of another type than bytes, but b, are as they were. -/
def KeepT (b : Nat) (w w' : World) : Prop := ∀ k cs t fr, k ≠ b → t ≠ 5 → w.heap[k]? = some (.cells cs t fr) → w'.heap[k]? = some (.cells cs t fr)
theorem KeepT.set (b j : Nat) (w : World) (u : Value) : KeepT b w (w.setCell ⟨b, j, none⟩ u) := fun k cs t fr hk _ h => by
 rw [Below.heap_setCell w ⟨b, j, none⟩ u k hk]
 exact h
theorem KeepT.trans {b : Nat} {A B C : World} (h : KeepT b A B) (k : KeepT b B C) : KeepT b A C := fun i cs t fr hi ht e => k i cs t fr hi ht (h i cs t fr hi ht e)
theorem copyCheck_calls (B b : Nat) (bs : List Value) (w : World) (h : Lib.IsBuilder 94 5 B b bs w) :
  Calls Tryd.prog 81 #[.pointer (some ⟨b, 0, none⟩)] w fun e w' => e = .returned (.tuple #[]) ∧ (Lib.BuilderAt 94 5 B b (.pointer (some ⟨b, 0, none⟩)) bs w' ∧ Below B w w' ∧ KeepT b w w') := by
 rcases h with h | h
 ·refine (copyCheck_fresh b w h.cell0 h.shape h.frozen0).mono ?_
  rintro e w' ⟨rfl, rfl⟩
  exact ⟨rfl, h.used _, (Below.refl B w).setCell (p := ⟨b, 0, none⟩) h.1 _, KeepT.set _ _ _ _⟩
 ·refine (copyCheck_used b w h.cell0).mono ?_
  rintro e w' ⟨rfl, rfl⟩
  exact ⟨rfl, h, Below.refl B _, fun _ _ _ _ _ _ h => h⟩
theorem info5b : (Tryd.prog.info? 5).map (fun i => (i.zero, i.size, i.bytes)) = some (some (.int .u8 0), 1, 1) := by kernel_rfl
set_option maxHeartbeats 2000000 in
set_option maxRecDepth 100000 in
theorem write_calls (B b : Nat) (bs : List Value) (s : ByteArray) (w : World) (h : Lib.IsBuilder 94 5 B b bs w) (hlen : bs.length + s.size ≤ 140737488355328) (hBw : B ≤ w.heap.size) :
  Calls Tryd.prog 71 #[.pointer (some ⟨b, 0, none⟩), .string s] w fun e w' => e = .returned (.tuple #[.int .i64 s.size, .nilIface]) ∧ (Lib.BuilderAt 94 5 B b (.pointer (some ⟨b, 0, none⟩)) (bs ++ Lib.strCells s) w' ∧ Below B w w' ∧ KeepT b w w') := by
 obtain ⟨i0, hi, hz0, hz1, hz2⟩ := info_parts info5b
 have HC := Aside0.mk (copyCheck_calls B b bs w h)
 go_enter Tryd.func71, Tryd.ntmps71
 go_wp2_with (go_at_call 81; refine HC.out.mono ?_)
 rintro e w1 ⟨rfl, h1, hb1, hk1⟩
 obtain ⟨hB, v, hbk, hown, hne⟩ := h1
 have c0 : w1.cell? ⟨b, 0, none⟩ = some (.pointer (some ⟨b, 0, none⟩)) := by rw [Lib.cell_of_heap hbk]; rfl
 have c1 : w1.cell? ⟨b, 1, none⟩ = some v := by rw [Lib.cell_of_heap hbk]; rfl
 go_wp2_with (at_builtin; refine Lib.wpList_append_own_string _ rfl _ _ 28 9 rfl B 5 i0 Tryd.underlying28 Tryd.underlying9 hi hz0 hz1 hz2 _ _ _ rfl hown s rfl ?c3 ?c4 ?c5 ?_)
 case c3 => unfold maxLen; omega
 case c4 => omega
 case c5 => have := hb1.size; omega
 intro v' w2 hown' hgrow _
 have hlt : b < w1.heap.size := by
  rcases Nat.lt_or_ge b w1.heap.size with h' | h'
  ·exact h'
  ·simp [Array.getElem?_eq_none h'] at hbk
 have hb2 : w2.heap[b]? = some (.cells #[.pointer (some ⟨b, 0, none⟩), v] 94 (0, 0)) := by
  rw [hgrow.block b hlt (fun e => hne e.symm)]
  exact hbk
 have d0 : w2.cell? ⟨b, 0, none⟩ = some (.pointer (some ⟨b, 0, none⟩)) := by rw [Lib.cell_of_heap hb2]; rfl
 have d1 : w2.cell? ⟨b, 1, none⟩ = some v := by rw [Lib.cell_of_heap hb2]; rfl
 have f1 : w2.frozen? ⟨b, 1, none⟩ = false := Lib.frozen_of_heap hb2 1
 obtain ⟨ao, n', cap, rfl⟩ : ∃ ao n' cap, v' = .slice ao n' cap := by
  rcases hown'.2 with ⟨hv, _⟩ | ⟨g, cap, cur, hv, _⟩
  ·exact ⟨_, _, _, hv⟩
  ·exact ⟨_, _, _, hv⟩
 go_wp2
 go_ret2
 refine ⟨rfl, ?_, ?_, ?_⟩
 ·exact Lib.BuilderAt.put (T := 94) (e := 5) hB hb2 (bs' := bs ++ Lib.strCells s) (by simpa [Lib.strCells_length] using hown') (by decide)
 ·exact (hb1.grown hgrow (by have := hb1.size; omega) (fun k hk => (hown.lt k hk).1)).setCell (p := ⟨b, 1, none⟩) hB _
 ·refine (hk1.trans (fun k cs t fr hk ht e => ?_)).trans (KeepT.set _ _ _ _)
  rw [hgrow.block k (Array.getElem?_eq_some_iff.1 e).1 (fun he => ?_)]
  ·exact e
  ·rcases hown.2 with ⟨rfl, _⟩ | ⟨g, cap, cur, rfl, _, hh, _⟩
   ·simp [Value.ownBlock] at he
   ·have : k = g := by simpa [Value.ownBlock] using he
    subst this
    rw [e] at hh
    injection hh with hh
    injection hh with _ h2 _
    exact ht h2
theorem BuilderAt_below {B b : Nat} {p : Value} {bs : List Value} {w w' : World} (h : Lib.BuilderAt 94 5 B b p bs w) (hb : Below w.heap.size w w') : Lib.BuilderAt 94 5 B b p bs w' := by
 have hlt := h.lt
 obtain ⟨hB, v, hbk, hown, hne⟩ := h
 refine ⟨hB, v, (hb.block b hlt).trans hbk, hown.kept (grown_of_below hb none) ?_, hne⟩
 cases hv : v.ownBlock with
 | none => exact .inl rfl
 | some k => exact .inr (by simp)
theorem IsBuilder_below {B b : Nat} {bs : List Value} {w w' : World} (h : Lib.IsBuilder 94 5 B b bs w) (hb : Below w.heap.size w w') : Lib.IsBuilder 94 5 B b bs w' := h.imp (fun h => BuilderAt_below h hb) (fun h => BuilderAt_below h hb)
end Go.Proofs.YtnalcjgefbelnaaDoor.Q
end
section
namespace Go.Proofs.YtnalcjgefbelnaaDoor.Q
open Go.RowKit Go.Proofs.YtnalcjgefbelnaaDoorW.PrintWords Go.Proofs.YtnalcjgefbelnaaDoorW.PrintLast
def joinB (l : List ByteArray) (sep : ByteArray) : ByteArray := ⟨(Lib.join (l.map (·.data.toList)) sep.data.toList).toArray⟩
def strings_Join.f (l : List ByteArray) (sep : ByteArray) : Option ByteArray := if l.length ≤ 140737488355328 ∧ (joinB l sep).size ≤ 140737488355328 then some (joinB l sep) else none
theorem strings_Join.calls (A0 : Option Addr) (c0 : Nat) (l0 : List ByteArray) (a1 : ByteArray) (r : ByteArray) (w : World) (hr0 : Kd.C Kd.string w A0 l0.length l0) (hc0 : l0.length ≤ c0) (h : strings_Join.f l0 a1 = some r) :
  Calls Tryd.prog 83 #[.slice A0 l0.length c0, .string a1] w fun e w' => e = .returned (.string r) ∧ Below w.heap.size w w' := by
 unfold strings_Join.f at h
 split at h
 case isFalse => cases h
 rename_i hs
 obtain rfl := Option.some.inj h
 by_cases h0 : l0.length = 0
 ·obtain rfl := List.eq_nil_of_length_eq_zero h0
  refine (Tryd.strings_Join_none A0 c0 a1 w).mono ?_
  rintro e w' ⟨rfl, rfl⟩
  exact ⟨rfl, Below.refl _ _⟩
 ·obtain ⟨ad, rfl, hx⟩ := (Kd.reads_of_C (enc := Value.string) (d := ByteArray.empty) (h1 := fun _ => rfl) hr0).2.2 (by omega)
  have h00 := hx 0 (by omega)
  obtain ⟨bk, o, sp⟩ := ad
  have hsp : sp = none := by
   cases sp with
   | none => rfl
   | some y =>
    rw [show (⟨bk, o, some y⟩ : Addr).add 0 = ⟨bk, o, some y⟩ from rfl] at h00
    unfold World.cell? at h00
    split at h00 <;> simp at h00
  subst hsp
  have hb := World.block_lt_of_cell? w _ h00
  refine (Tryd.strings_Join bk o c0 l0 a1 w (fun j x hj => ?_) hb hs.1 hc0 (by have := hs.2; unfold joinB at this; simpa [ByteArray.size] using this)).mono ?_
  ·have hjl := (List.getElem?_eq_some_iff.1 hj).1
   have h2 := hx j hjl
   rw [List.getD_eq_getElem?_getD, hj, Option.getD_some] at h2
   rw [← h2]
   congr 1
   unfold Addr.add
   split
   ·rename_i h; subst h; rfl
   ·rfl
  ·rintro e w' ⟨rfl, hb⟩
   exact ⟨rfl, hb⟩
end Go.Proofs.YtnalcjgefbelnaaDoor.Q
end
section
namespace Go.Proofs.YtnalcjgefbelnaaDoor.Q
open Go.RowKit Go.Proofs.YtnalcjgefbelnaaDoorW.PrintWords Go.Proofs.YtnalcjgefbelnaaDoorW.PrintLast Go.Proofs.YtnalcjgefbelnaaDoorW.PrintMore
set_option linter.unusedVariables false
set_option linter.unusedSimpArgs false

attribute [local go_sem] max2_int min2_int max_two min_two max_three min_three max_four min_four
/-! ### digit_fit: function 89 -/
def digit_fit.f (a0 : Int) : Option (Bool) := if a0 ≥ 2 then (some (decide (a0 ≤ 36))) else (some false)
set_option maxHeartbeats 8000000 in
set_option maxRecDepth 100000 in
theorem digit_fit.calls (a0 : Int) (r : Bool) (w : World) (h : digit_fit.f a0 = some r) :
  Calls Tryd.prog 89 #[.int .u32 a0] w fun e w' => e = .returned (.bool r) ∧ Drawn0 w w' := by
 have H : (if a0 ≥ 2 then (some (decide (a0 ≤ 36))) else (some false)) = some r := h
 clear h
 by_cases c2 : a0 ≥ 2
 ·rw [if_pos c2] at H
  have c2b0 : decide (2 ≤ a0) = true := decide_eq_true c2
  clear c2
  obtain rfl := Option.some.inj H
  go_enter Tryd.func89, Tryd.ntmps89
  go_wp2
  go_ret
  exact ⟨by first | rfl | (simp; done) | (simp [*]; done), by repeat (first | exact Drawn0.refl _ | apply Drawn0.step)⟩
 ·rw [if_neg c2] at H
  have c2b0 : decide (2 ≤ a0) = false := decide_eq_false c2
  clear c2
  obtain rfl := Option.some.inj H
  go_enter Tryd.func89, Tryd.ntmps89
  go_wp2
  go_ret
  exact ⟨by first | rfl | (simp; done) | (simp [*]; done), by repeat (first | exact Drawn0.refl _ | apply Drawn0.step)⟩

end Go.Proofs.YtnalcjgefbelnaaDoor.Q
end
section
namespace Go.Proofs.YtnalcjgefbelnaaDoor.Q
open Go.RowKit Go.Proofs.YtnalcjgefbelnaaDoorW.PrintWords Go.Proofs.YtnalcjgefbelnaaDoorW.PrintLast Go.Proofs.YtnalcjgefbelnaaDoorW.PrintMore
set_option linter.unusedVariables false
set_option linter.unusedSimpArgs false

attribute [local go_sem] max2_int min2_int max_two min_two max_three min_three max_four min_four
/-! ### tinderref02_Small: function 98 -/
def tinderref02_Small.f (a0 : Int) : Option (Int) := if a0 ≥ 65 then (if a0 ≤ 90 then (some ((a0 + 32) % 256)) else (some a0)) else (some a0)

end Go.Proofs.YtnalcjgefbelnaaDoor.Q
end
section
namespace Go.Proofs.YtnalcjgefbelnaaDoor.Q
open Go.RowKit Go.Proofs.YtnalcjgefbelnaaDoorW.PrintWords Go.Proofs.YtnalcjgefbelnaaDoorW.PrintLast Go.Proofs.YtnalcjgefbelnaaDoorW.PrintMore
set_option linter.unusedVariables false
set_option linter.unusedSimpArgs false

attribute [local go_sem] max2_int min2_int max_two min_two max_three min_three max_four min_four
/-! ### tinderref02_Value: function 92 -/
mutual
def tinderref02_Value.j0 : Nat → Int → Int → Bool → Option (Int × Bool)
 | 0, _, _, _ => none
 | k + 1, x0, x1, x12 => if x12 = true then (some (0, false)) else (tinderref02_Value.l0 k x0 x1 0)
def tinderref02_Value.l0 : Nat → Int → Int → Int → Option (Int × Bool)
 | 0, _, _, _ => none
 | k + 1, x0, x1, x6 => if x6 < (wrap64 (x1)) then (if 0 ≤ x6 then (if x6 < 36 then ((tinderref02_Small.f x0).bind fun t93001 => (if (bt (⟨#[48, 49, 50, 51, 52, 53, 54, 55, 56, 57, 97, 98, 99, 100, 101, 102, 103, 104, 105, 106, 107, 108, 109, 110, 111, 112, 113, 114, 115, 116, 117, 118, 119, 120, 121, 122]⟩ : ByteArray) x6) = t93001 then (some ((x6) % 4294967296, true)) else (tinderref02_Value.l0 k x0 x1 (wrap64 (x6 + 1))))) else (none)) else (none)) else (some (0, false))
end
def tinderref02_Value.f (k : Nat) (a0 : Int) (a1 : Int) : Option (Int × Bool) := if a1 < 2 then (tinderref02_Value.j0 k a0 a1 true) else (tinderref02_Value.j0 k a0 a1 (decide (a1 > 36)))

end Go.Proofs.YtnalcjgefbelnaaDoor.Q
end
section
namespace Go.Proofs.YtnalcjgefbelnaaDoor.Q
open Go.RowKit Go.Proofs.YtnalcjgefbelnaaDoorW.PrintWords Go.Proofs.YtnalcjgefbelnaaDoorW.PrintLast Go.Proofs.YtnalcjgefbelnaaDoorW.PrintMore
set_option linter.unusedVariables false
set_option linter.unusedSimpArgs false

attribute [local go_sem] max2_int min2_int max_two min_two max_three min_three max_four min_four
/-! ### tinderref02_Parse: function 85 -/
mutual
def tinderref02_Parse.j0 : Nat → ByteArray → Int → Bool → Option (Int × Int)
 | 0, _, _, _ => none
 | k + 1, x0, x1, x17 => if x17 = true then (some (0, 1)) else (if (x0.size : Int) > 0 then (if 0 < (x0.size : Int) then (tinderref02_Parse.j1 k x0 x1 ((bt x0 0) == 45)) else (none)) else (tinderref02_Parse.j1 k x0 x1 false))
def tinderref02_Parse.j1 : Nat → ByteArray → Int → Bool → Option (Int × Int)
 | 0, _, _, _ => none
 | k + 1, x0, x1, x6 => if x6 = true then (if 1 ≤ (x0.size : Int) then (tinderref02_Parse.j2 k (x0.extract 1 x0.size) x1 x6) else (none)) else (tinderref02_Parse.j2 k x0 x1 x6)
def tinderref02_Parse.j2 : Nat → ByteArray → Int → Bool → Option (Int × Int)
 | 0, _, _, _ => none
 | k + 1, x0, x1, x6 => if (x0.size : Int) = 0 then (some (0, 15)) else (tinderref02_Parse.l0 k x0 x1 x6 0 false 0)
def tinderref02_Parse.l0 : Nat → ByteArray → Int → Bool → Int → Bool → Int → Option (Int × Int)
 | 0, _, _, _, _, _, _ => none
 | k + 1, x0, x1, x6, x7, x8, x9 => if x9 < (x0.size : Int) then (if 0 ≤ x9 then ((tinderref02_Value.f k (bt x0 x9) x1).bind fun bt86001 => (if bt86001.2 = true then (if x8 = true then (tinderref02_Parse.l0 k x0 x1 x6 x7 x8 (wrap64 (x9 + 1))) else (tinderref02_Parse.l0 k x0 x1 x6 (IntKind.u64.wrap ((IntKind.u64.wrap (x7 * (IntKind.u64.wrap (x1)))) + (IntKind.u64.wrap (bt86001.1)))) (decide ((IntKind.u64.wrap ((IntKind.u64.wrap (x7 * (IntKind.u64.wrap (x1)))) + (IntKind.u64.wrap (bt86001.1)))) ≥ 4294967296)) (wrap64 (x9 + 1)))) else (some (0, 15)))) else (none)) else (if x8 = true then (some (0, 4)) else (if x6 = true then (some ((Int.tmod (IntKind.u64.wrap (4294967296 - x7)) 4294967296) % 4294967296, 0)) else (some ((x7) % 4294967296, 0))))
end
def tinderref02_Parse.f (k : Nat) (a0 : ByteArray) (a1 : Int) : Option (Int × Int) := if a1 < 2 then (tinderref02_Parse.j0 k a0 a1 true) else (tinderref02_Parse.j0 k a0 a1 (decide (a1 > 36)))

end Go.Proofs.YtnalcjgefbelnaaDoor.Q
end
section
namespace Go.Proofs.YtnalcjgefbelnaaDoor.Q
open Go.RowKit Go.Proofs.YtnalcjgefbelnaaDoorW.PrintWords Go.Proofs.YtnalcjgefbelnaaDoorW.PrintLast
/-- The place of a byte among all digits; 255: none. -/
def numF (c : Int) : Int := if 48 ≤ c ∧ c ≤ 57 then c - 48 else if 97 ≤ c ∧ c ≤ 122 then c - 87 else if 65 ≤ c ∧ c ≤ 90 then c - 55 else 255
def valF (c b : Int) : Int × Bool := if 2 ≤ b ∧ b ≤ 36 ∧ numF c < b then (numF c, true) else (0, false)
def smallF (c : Int) : Int := if 65 ≤ c ∧ c ≤ 90 then c + 32 else c
def digitsB : ByteArray := ⟨#[48, 49, 50, 51, 52, 53, 54, 55, 56, 57, 97, 98, 99, 100, 101, 102, 103, 104, 105, 106, 107, 108, 109, 110, 111, 112, 113, 114, 115, 116, 117, 118, 119, 120, 121, 122]⟩
theorem digits_all : ((List.range 36).all fun (j : Nat) => bt digitsB (j : Int) == if j < 10 then (j : Int) + 48 else (j : Int) + 87) = true := by kernel_rfl
theorem digits_at (i : Int) (h : 0 ≤ i ∧ i < 36) : bt digitsB i = if i < 10 then i + 48 else i + 87 := by
 have := List.all_eq_true.1 digits_all i.toNat (List.mem_range.2 (by omega))
 rw [beq_iff_eq] at this
 rw [show ((i.toNat : Nat) : Int) = i by omega] at this
 rw [this]
 by_cases h1 : i < 10
 ·rw [if_pos h1, if_pos (by omega)]
 ·rw [if_neg h1, if_neg (by omega)]
/-- A text's digits as a number; the mark: it is too great; none: a byte is no digit. -/
def parL (b : Int) : List Int → Int → Bool → Option (Int × Bool)
 | [], n, g => some (n, g)
 | c :: l, n, g => if (valF c b).2 = true then (if g = true then parL b l n true else parL b l (n * b + (valF c b).1) (decide (n * b + (valF c b).1 ≥ 4294967296))) else none
def resF (neg : Bool) : Option (Int × Bool) → Int × Int
 | none => (0, 15)
 | some (n, g) => if g = true then (0, 4) else (if neg = true then ((4294967296 - n) % 4294967296, 0) else (n, 0))
theorem wrap_u64_id (n : Int) (h0 : 0 ≤ n) (h1 : n < 18446744073709551616) : IntKind.u64.wrap n = n := by rw [IntKind.wrap_u64]; omega
/-- A text as a number in a base. -/
def parF (s : ByteArray) (b : Int) : Int × Int :=
 if 2 ≤ b ∧ b ≤ 36 then
  (if 0 < s.size ∧ bt s 0 = 45 then (if s.size = 1 then (0, 15) else resF true (parL b (bytesOf (s.extract 1 s.size)) 0 false))
   else (if s.size = 0 then (0, 15) else resF false (parL b (bytesOf s) 0 false)))
 else (0, 1)
end Go.Proofs.YtnalcjgefbelnaaDoor.Q
end
section
namespace Go.Proofs.YtnalcjgefbelnaaDoor.Q
open Go.RowKit Go.Proofs.YtnalcjgefbelnaaDoorW.PrintWords Go.Proofs.YtnalcjgefbelnaaDoorW.PrintLast Go.Proofs.YtnalcjgefbelnaaDoorW.PrintMore
def chN (v : Nat) : Nat := if v < 10 then 48 + v else 87 + v
def showL (b u : Nat) : List UInt8 := if _h : u < b ∨ b < 2 then [UInt8.ofNat (chN u)] else showL b (u / b) ++ [UInt8.ofNat (chN (u % b))]
termination_by u
decreasing_by exact Nat.div_lt_self (by omega) (by omega)
theorem showL_small {b u : Nat} (h : u < b) : showL b u = [UInt8.ofNat (chN u)] := by rw [showL, dif_pos (.inl h)]
theorem showL_big {b u : Nat} (hb : 2 ≤ b) (h : b ≤ u) : showL b u = showL b (u / b) ++ [UInt8.ofNat (chN (u % b))] := by rw [showL, dif_neg (by omega)]
theorem showL_len (b : Nat) (hb : 2 ≤ b) (k : Nat) : ∀ u : Nat, u < 2 ^ (k + 1) → (showL b u).length ≤ k + 1 := by
 induction k with
 | zero =>
  intro u hu
  rw [showL_small (by omega)]
  simp
 | succ k ih =>
  intro u hu
  by_cases h : u < b
  ·rw [showL_small h]; simp
  ·rw [showL_big hb (by omega), List.length_append]
   have h1 : u / b ≤ u / 2 := Nat.div_le_div_left hb (by omega)
   have h2 : u / 2 < 2 ^ (k + 1) := by
    rw [Nat.pow_succ] at hu
    omega
   have := ih (u / b) (by omega)
   simp
   omega
theorem showL_pos (b u : Nat) : 1 ≤ (showL b u).length := by
 rw [showL]
 split
 ·simp
 ·rw [List.length_append]; simp
theorem showL_one {b u : Nat} (hb : 2 ≤ b) (h : (showL b u).length = 1) : u < b := by
 rcases Nat.lt_or_ge u b with h1 | h1
 ·exact h1
 ·rw [showL_big hb h1, List.length_append] at h
  have := showL_pos b (u / b)
  rw [List.length_singleton] at h
  omega
theorem showL_more {b u k : Nat} (hb : 2 ≤ b) (h : (showL b u).length = k + 1 + 1) : b ≤ u ∧ (showL b (u / b)).length = k + 1 := by
 rcases Nat.lt_or_ge u b with h1 | h1
 ·rw [showL_small h1] at h
  simp at h
 ·refine ⟨h1, ?_⟩
  rw [showL_big hb h1, List.length_append] at h
  simpa using h
def showI (b u : Int) : List Int := (showL b.toNat u.toNat).map fun c => (c.toNat : Int)
def chI (v : Int) : Int := if v < 10 then v + 48 else v + 87
theorem ch_eq (v : Nat) (h : v < 36) : ((UInt8.ofNat (chN v)).toNat : Int) = chI v := by
 unfold chN chI
 by_cases h1 : v < 10
 ·rw [if_pos h1, if_pos (by omega), UInt8.toNat_ofNat']
  omega
 ·rw [if_neg h1, if_neg (by omega), UInt8.toNat_ofNat']
  omega
theorem showI_small {b u : Int} (h0 : 0 ≤ u) (h : u < b) (hb : b ≤ 36) : showI b u = [chI u] := by
 unfold showI
 rw [showL_small (by omega), List.map_singleton, ch_eq _ (by omega), Int.toNat_of_nonneg h0]
theorem showI_big {b u : Int} (hb : 2 ≤ b) (hb2 : b ≤ 36) (h : b ≤ u) : showI b u = showI b (u / b) ++ [chI (u % b)] := by
 unfold showI
 have e1 : (u / b).toNat = u.toNat / b.toNat := by
  obtain ⟨n, rfl⟩ := Int.eq_ofNat_of_zero_le (show 0 ≤ u by omega)
  obtain ⟨m, rfl⟩ := Int.eq_ofNat_of_zero_le (show 0 ≤ b by omega)
  rfl
 have e2 : ((u.toNat % b.toNat : Nat) : Int) = u % b := by
  rw [Int.natCast_emod, Int.toNat_of_nonneg (by omega), Int.toNat_of_nonneg (by omega)]
 rw [showL_big (by omega) (by omega), List.map_append, List.map_singleton, ch_eq _ (by have := Nat.mod_lt u.toNat (show 0 < b.toNat by omega); omega), e1, e2]
theorem digits_ch (v : Int) (h : 0 ≤ v ∧ v < 36) : bt digitsB v = chI v := digits_at v h
/-- A block of bytes as a row of the call's own. -/
theorem R_arr {W : World} {base g : Nat} {L : List Int} {t : TypeId} (h : W.heap[g]? = some (.cells (L.map (Value.int .u8)).toArray t (0, 0))) (hb : base ≤ g) (hl : L.length ≤ 9223372036854775807) :
  Kd.R (Kd.int .u8) t W base (fun _ => True) (.slice (some ⟨g, 0, none⟩) L.length L.length) L := by
 have e : (Kd.int .u8).sz = 1 := rfl
 refine ⟨fun _ _ => trivial, L.map (Value.int .u8), ⟨by rw [List.length_map, e, Nat.mul_one], .inr ⟨g, L.length, _, rfl, hb, h, Nat.le_refl _, hl, by rw [List.size_toArray, List.length_map, e, Nat.mul_one], ?_⟩⟩, reps_scalar_mk (enc := Value.int .u8) (R := (Kd.int .u8).M W base _) (fun _ => rfl) L⟩
 rw [e, Nat.mul_one]
 exact List.take_of_length_le (by rw [List.length_map]; exact Nat.le_refl _)
end Go.Proofs.YtnalcjgefbelnaaDoor.Q
end
section
namespace Go.Proofs.YtnalcjgefbelnaaDoor.Q
open Go.RowKit Go.Proofs.YtnalcjgefbelnaaDoorW.PrintWords Go.Proofs.YtnalcjgefbelnaaDoorW.PrintLast Go.Proofs.YtnalcjgefbelnaaDoorW.PrintMore
set_option linter.unusedVariables false
set_option linter.unusedSimpArgs false

attribute [local go_sem] max2_int min2_int max_two min_two max_three min_three max_four min_four
/-! ### strconv_isPowerOfTwo: function 108 -/
def strconv_isPowerOfTwo.f (a0 : Int) : Option (Bool) := some ((Go.bits .and .i64 a0 (wrap64 (a0 - 1))) == 0)
set_option maxHeartbeats 8000000 in
set_option maxRecDepth 100000 in
theorem strconv_isPowerOfTwo.calls (a0 : Int) (r : Bool) (w : World) (h : strconv_isPowerOfTwo.f a0 = some r) :
  Calls Tryd.prog 108 #[.int .i64 a0] w fun e w' => e = .returned (.bool r) ∧ Drawn0 w w' := by
 have H : (some ((Go.bits .and .i64 a0 (wrap64 (a0 - 1))) == 0)) = some r := h
 clear h
 obtain rfl := Option.some.inj H
 go_enter Tryd.func108, Tryd.ntmps108
 go_wp2
 go_ret
 exact ⟨by first | rfl | (simp; done) | (simp [*]; done), by repeat (first | exact Drawn0.refl _ | apply Drawn0.step)⟩

end Go.Proofs.YtnalcjgefbelnaaDoor.Q
end
section
namespace Go.Proofs.YtnalcjgefbelnaaDoor.Q
open Go.RowKit Go.Proofs.YtnalcjgefbelnaaDoorW.PrintWords Go.Proofs.YtnalcjgefbelnaaDoorW.PrintLast Go.Proofs.YtnalcjgefbelnaaDoorW.PrintMore
theorem digits_idx (v : Int) (h : 0 ≤ v ∧ v < 36) : ∀ hh : v.toNat < (⟨#[48, 49, 50, 51, 52, 53, 54, 55, 56, 57, 97, 98, 99, 100, 101, 102, 103, 104, 105, 106, 107, 108, 109, 110, 111, 112, 113, 114, 115, 116, 117, 118, 119, 120, 121, 122]⟩ : ByteArray).size, (((⟨#[48, 49, 50, 51, 52, 53, 54, 55, 56, 57, 97, 98, 99, 100, 101, 102, 103, 104, 105, 106, 107, 108, 109, 110, 111, 112, 113, 114, 115, 116, 117, 118, 119, 120, 121, 122]⟩ : ByteArray)[v.toNat]'hh).toNat : Int) = chI v := fun hh => (bt_at (⟨#[48, 49, 50, 51, 52, 53, 54, 55, 56, 57, 97, 98, 99, 100, 101, 102, 103, 104, 105, 106, 107, 108, 109, 110, 111, 112, 113, 114, 115, 116, 117, 118, 119, 120, 121, 122]⟩ : ByteArray) v hh).trans (digits_ch v h)
theorem drop_set_at (L : List Int) (j : Nat) (x : Int) (h : j < L.length) : (L.set j x).drop j = x :: L.drop (j + 1) := by
 rw [List.drop_eq_getElem_cons (by rw [List.length_set]; exact h), List.getElem_set_self, List.drop_set_of_lt (by omega)]
theorem slice_arr (gb : Nat) (j : Int) (h : 0 ≤ j ∧ j < 65) (W : World) : (Instr.sliceAt 135 (.pointer (some ⟨gb, 0, none⟩)) (some (.int .i64 j)) none none).run Tryd.prog W = .ok (.slice (some ⟨gb, j.toNat, none⟩) (65 - j.toNat) (65 - j.toNat)) W := by
 have hal : Tryd.prog.arrayLen 135 = 65 := by kernel_rfl
 have hel : Tryd.prog.elem 135 = 5 := by kernel_rfl
 rw [run_sliceAt_array_l W 135 ⟨gb, 0, none⟩ (by kernel_rfl) .i64 j h.1 (by rw [hal]; omega), hal, hel, run_size (sz := 1) (by kernel_rfl) W]
 show Result.ok (slicedAt ⟨gb, 0, none⟩ j.toNat 65 65 1) W = _
 unfold slicedAt
 rw [if_neg (by omega), Nat.mul_one, add_plain]
def Z65 : List Value := (List.replicate 65 (0 : Int)).map (Value.int .u8)
theorem and_mask (u : Int) (s : Nat) (h0 : 0 ≤ u) (h1 : u < 18446744073709551616 ∧ s < 8) : bits .and .u64 u (2 ^ s - 1 : Nat) = u % (2 ^ s : Nat) := by
 obtain ⟨n, rfl⟩ := Int.eq_ofNat_of_zero_le h0
 have h2 : 2 ^ s ≤ 2 ^ 8 := Nat.pow_le_pow_right (by decide) (by omega)
 rw [bits_and_u64_nat n (2 ^ s - 1) (by omega) (by omega), Nat.and_two_pow_sub_one_eq_mod]
 rfl
set_option maxRecDepth 100000 in
theorem tz64_16 (w : World) (ht : QB.Tabs w) : Calls Tryd.prog 111 #[.int .u64 16] w fun e w' => e = .returned (.int .i64 4) ∧ w' = w := by
 have hc : w.cell? ⟨3, 15, none⟩ = some (.int .u8 4) := ht.at_bits_deBruijn64tab 15 (by decide)
 have e1 : IntKind.u64.wrap (bits .and .u64 16 (IntKind.u64.wrap (-16)) * 285870213051353865) / 288230376151711744 = 15 := by kernel_rfl
 clear ht
 go_enter Tryd.func111, Tryd.ntmps111
 go_wp2
 go_ret
 exact ⟨rfl, rfl⟩
set_option maxRecDepth 100000 in
theorem tz_16 (w : World) (ht : QB.Tabs w) : Calls Tryd.prog 109 #[.int .u64 16] w fun e w' => e = .returned (.int .i64 4) ∧ Below w.heap.size w w' := by
 have HT := Aside0.mk ht
 clear ht
 go_enter Tryd.func109, Tryd.ntmps109
 go_wp2_with (first
  | (go_at_call 111; refine (tz64_16 _ HT.out).mono ?_; rintro e w1 ⟨rfl, rfl⟩))
 go_ret
 exact ⟨rfl, Below.refl _ _⟩
set_option maxHeartbeats 4000000 in
set_option maxRecDepth 100000 in
theorem formatBits_p16 (u0 : Int) (hu : 0 ≤ u0 ∧ u0 < 4294967296) (w : World) (ht : QB.Tabs w) :
  Calls Tryd.prog 103 #[.slice none 0 0, .int .u64 u0, .int .i64 16, .bool false, .bool false] w fun e w' => e = .returned (.tuple #[.slice none 0 0, .string (strOfNums (showI 16 u0))]) ∧ Below w.heap.size w w' := by
 have HP := Aside0.mk (show strconv_isPowerOfTwo.f 16 = some true by kernel_rfl)
 have HBb := Aside0.mk (show (2 : Int) ≤ 16 ∧ (16 : Int) ≤ 36 ∧ (16 : Int) ≠ 10 by decide)
 have HT := Aside0.mk ht
 have hb := HBb.out
 have HU := Aside0.mk hu
 have HB := Aside0.mk (Below.refl w.heap.size w)
 obtain ⟨Z, hZ⟩ : ∃ Z, Z = Z65 := ⟨_, rfl⟩
 have HZ := Aside0.mk hZ
 clear ht hb hu hZ
 go_enter Tryd.func103, Tryd.ntmps103
 go_wp2_with (first
  | ((with_reducible refine gate_dst (N := 12) rfl ?_); refine box_event ?hg (N := 12) ?hd (cs := Z.toArray) (t := 135) ?hr ?_; (case hd => rfl); (case hg => rfl); (case hr => have hZ2 := HZ.out; first | (go_simp; done) | (go_simp; rfl)); intro gb hg w2 hbox hb; have BK := Aside0.mk hbox; have GB := Aside0.mk (show w.heap.size ≤ gb from hg ▸ Nat.le_refl _); have HB1 := Aside0.mk hb; clear hbox hb hg HB)
  | (go_at_call 108; refine (strconv_isPowerOfTwo.calls _ _ _ HP.out).mono ?_; rintro e w3 ⟨rfl, hd⟩; have HB3 := Aside0.mk (below_step HB1.out hd.below); have BK3 := Aside0.mk (blk_below BK.out hd.below); clear hd BK HB1)
  | (go_at_call 109; refine (tz_16 _ (HT.out.below HB3.out)).mono ?_; rintro e w4 ⟨rfl, hd⟩; have HB2 := Aside0.mk (below_step HB3.out hd); have BK2 := Aside0.mk (blk_below BK3.out hd); clear hd BK3 HB3))
 have HR := Aside0.mk (show Kd.R (Kd.int .u8) 135 _ w.heap.size (fun _ => True) (.slice (some ⟨gb, 0, none⟩) 65 65) (List.replicate 65 (0 : Int)) from by
  have h := BK2.out
  rw [HZ.out] at h
  exact R_arr (L := List.replicate 65 (0 : Int)) h GB.out (by decide))
 obtain ⟨n0, hn0⟩ : ∃ n0, n0 = (showL (16 : Int).toNat u0.toNat).length := ⟨_, rfl⟩
 have hn1 : 1 ≤ n0 ∧ n0 ≤ 32 := by
  have h1 := HU.out
  have h2 := HBb.out
  rw [hn0]
  exact ⟨showL_pos _ _, showL_len (16 : Int).toNat (by omega) 31 u0.toNat (by omega)⟩
 have HN0 := Aside0.mk hn0
 clear BK2 hn0
 go_loopg [1, 13] n0 (fun kq v1 v13 w' => ∃ (u i : Int) (L : List Int), v1 = .int .u64 u ∧ v13 = .int .i64 i ∧ Aside0 (0 ≤ u ∧ u < 4294967296 ∧ (showL (16 : Int).toNat u.toNat).length = kq ∧ kq ≤ n0 ∧ i = 65 - (n0 - kq) ∧ L.length = 65) ∧ Aside0 (showI 16 u ++ L.drop i.toNat = showI 16 u0) ∧ Aside0 (Kd.R (Kd.int .u8) 135 w' w.heap.size (fun _ => True) (.slice (some ⟨gb, 0, none⟩) 65 65) L) ∧ Aside0 (Below w.heap.size w w'))
 case atStart =>
  have h1 := HU.out
  exact ⟨u0, 65, _, rfl, rfl, ⟨h1.1, h1.2, HN0.out.symm, Nat.le_refl _, by omega, by simp⟩, ⟨by simp⟩, HR, HB2⟩
 case round =>
  clear HR HB2
  obtain ⟨u, i, L, rfl, rfl, HI, HS, HR, HB2⟩ := hrel
  have h7 := HBb.out
  by_cases hlt : 16 ≤ u
  ·have d4 : decide (16 ≤ u) = true := decide_eq_true hlt
   obtain ⟨h1, h2, h3, h4, h5, h6⟩ := HI.out
   cases gk with
   | zero => exact absurd h3 (by have := showL_pos (16 : Int).toNat u.toNat; omega)
   | succ k1 =>
   cases k1 with
   | zero => exact absurd (showL_one (by omega) h3) (by omega)
   | succ k2 =>
   obtain ⟨h8, h9⟩ := showL_more (show 2 ≤ (16 : Int).toNat by omega) h3
   have hbig := showI_big h7.1 h7.2.1 hlt
   have hdm := Int.mul_ediv_add_emod u 16
   have hm0 := Int.emod_nonneg u (show (16 : Int) ≠ 0 by omega)
   have hm1 := Int.emod_lt_of_pos u (show (0 : Int) < 16 by omega)
   have hq0 : 0 ≤ u / 16 := Int.ediv_nonneg h1 (by omega)
   have hq1 : u / 16 ≤ u := Int.ediv_le_self _ h1
   have hqn : (u / 16).toNat = u.toNat / (16 : Int).toNat := by
    obtain ⟨n, rfl⟩ := Int.eq_ofNat_of_zero_le h1
    rfl
   rw [← hqn] at h9
   obtain ⟨q, hq⟩ : ∃ q : Int, q = u / 16 := ⟨_, rfl⟩
   obtain ⟨r, hr⟩ : ∃ r : Int, r = u % 16 := ⟨_, rfl⟩
   rw [← hq] at hbig hdm hq0 hq1 h9
   rw [← hr] at hbig hdm hm0 hm1
   obtain ⟨j, hj⟩ : ∃ j : Int, j = i - 1 := ⟨_, rfl⟩
   have hj2 : 0 ≤ j ∧ j < 65 := by omega
   have e1 : wrap64 (i - 1) = j := by unfold wrap64; omega
   have e2 : bits .and .u64 u 15 = r := by rw [hr]; exact and_mask u 4 h1 (by omega)
   have e3 : u / 16 = q := hq.symm
   obtain ⟨hx, hf⟩ := Kd.R_celln 0 HR.out j (by omega) (by omega)
   have hdg := digits_idx r (by omega)
   have p1 : (0 ≤ r) = True := eq_true hm0
   have p2 : (r < 36) = True := eq_true (by omega)
   have p3 : (0 ≤ j) = True := eq_true hj2.1
   have p4 : (j < 65) = True := eq_true hj2.2
   have HJ := Aside0.mk hj
   have HJ2 := Aside0.mk hj2
   have HBIG := Aside0.mk hbig
   have HQ := Aside0.mk (show 0 ≤ q ∧ q < 4294967296 from ⟨hq0, by omega⟩)
   have H9 := Aside0.mk h9
   have HP2 := Aside0.mk (Kd.R_putn HR.out j (chI r))
   clear hj hj2 hlt h1 h2 h3 h4 h5 h6 h7 h8 h9 hbig hdm hm0 hm1 hq0 hq1 hqn hq hr
   go_wp2
   go_roundg (k2 + 1)
   case measure => omega
   case rel =>
    have hi := HI.out
    have hj := HJ.out
    have hj2 := HJ2.out
    refine ⟨q, j, L.set j.toNat (chI r), rfl, rfl, ⟨HQ.out.1, HQ.out.2, H9.out, by omega, by omega, by rw [List.length_set]; exact hi.2.2.2.2.2⟩, ⟨?_⟩, ⟨HP2.out⟩, ⟨below_set HB2.out GB.out⟩⟩
    rw [drop_set_at L j.toNat (chI r) (by omega), show j.toNat + 1 = i.toNat by omega, ← HS.out, HBIG.out, List.append_assoc]
    rfl
  ·have d4 : decide (16 ≤ u) = false := decide_eq_false hlt
   obtain ⟨j, hj⟩ : ∃ j : Int, j = i - 1 := ⟨_, rfl⟩
   have hj2 : 0 ≤ j ∧ j < 65 := by have := HI.out; omega
   have e1 : wrap64 (i - 1) = j := by unfold wrap64; omega
   obtain ⟨hx, hf⟩ := Kd.R_celln 0 HR.out j (by omega) (by omega)
   have hu1 := HI.out.1
   have hdg := digits_idx u (by omega)
   have p1 : (0 ≤ u) = True := eq_true hu1
   have p2 : (u < 36) = True := eq_true (by omega)
   have p3 : (0 ≤ j) = True := eq_true hj2.1
   have p4 : (j < 65) = True := eq_true hj2.2
   have HJ := Aside0.mk hj
   have HJ2 := Aside0.mk hj2
   have HLT := Aside0.mk hlt
   clear hj hj2 hlt hu1 h7
   have HP2 := Aside0.mk (Kd.R_putn HR.out j (chI u))
   have hsl : ∀ W, (Instr.sliceAt 135 (.pointer (some ⟨gb, 0, none⟩)) (some (.int .i64 j)) none none).run Tryd.prog W = .ok (.slice (some ⟨gb, j.toNat, none⟩) (65 - j.toNat) (65 - j.toNat)) W := fun W => slice_arr gb j HJ2.out W
   have hcv : (convert 28 9 (.slice (some ⟨gb, j.toNat, none⟩) (65 - j.toNat) (65 - j.toNat))).run Tryd.prog (wr.setCell ⟨gb, j.toNat, none⟩ (.int .u8 (chI u))) = .ok (.string (strOfNums (showI 16 u0))) (wr.setCell ⟨gb, j.toNat, none⟩ (.int .u8 (chI u))) := by
    have hi := HI.out
    have hj := HJ.out
    have hj2 := HJ2.out
    have h7 := HBb.out
    have h := C_cut (Kd.R_reads' HP2.out).2.2 (c := 65) (by rw [List.length_set]; omega) j.toNat (65 - j.toNat) (by rw [List.length_set]; omega)
    rw [cutAt_own (show j.toNat < 65 by omega)] at h
    have h' : Kd.C (Kd.int .u8) (wr.setCell ⟨gb, j.toNat, none⟩ (.int .u8 (chI u))) (some ⟨gb, j.toNat * 1, none⟩) (65 - j.toNat) (((L.set j.toNat (chI u)).drop j.toNat).take (65 - j.toNat)) := h
    rw [Nat.mul_one] at h'
    have h2 := Kd.C_string (src := 28) (dst := 9) (c := 65 - j.toNat) Tryd.underlying28 Tryd.underlying5 Tryd.underlying9 h'
    rw [h2, List.take_of_length_le (by rw [List.length_drop, List.length_set]; omega), drop_set_at L j.toNat (chI u) (by omega), show j.toNat + 1 = i.toNat by omega, ← HS.out, showI_small hi.1 (Int.lt_of_not_ge HLT.out) h7.2.1]
    rfl
   go_wp2
   go_ret2
   exact ⟨rfl, below_set HB2.out GB.out⟩
end Go.Proofs.YtnalcjgefbelnaaDoor.Q
end
section
namespace Go.Proofs.YtnalcjgefbelnaaDoor.Q
open Go.RowKit Go.Proofs.YtnalcjgefbelnaaDoorW.PrintWords Go.Proofs.YtnalcjgefbelnaaDoorW.PrintLast Go.Proofs.YtnalcjgefbelnaaDoorW.PrintMore
def showB (b u : Int) : ByteArray := ⟨(showL b.toNat u.toNat).toArray⟩
theorem str_showI (b u : Int) : strOfNums (showI b u) = showB b u := by
 unfold strOfNums showI showB
 rw [List.map_map]
 congr 2
 conv => rhs; rw [← List.map_id (showL b.toNat u.toNat)]
 apply List.map_congr_left
 intro c _
 exact UInt8.toNat_inj.1 (by simp)
set_option maxHeartbeats 1000000 in
set_option maxRecDepth 100000 in
theorem formatUint_16 (u : Int) (hu : 0 ≤ u ∧ u < 4294967296) (w : World) (ht : QB.Tabs w) :
  Calls Tryd.prog 96 #[.int .u64 u, .int .i64 16] w fun e w' => e = .returned (.string (showB 16 u)) ∧ Below w.heap.size w w' := by
 have HC := Aside0.mk (formatBits_p16 u hu w ht)
 rw [str_showI] at HC
 clear ht hu
 go_enter Tryd.func96, Tryd.ntmps96
 go_wp2_with (first
  | (go_at_call 103; (with_reducible refine HC.out.mono ?_); rintro e w1 ⟨rfl, hb⟩; have HB := Aside0.mk hb; clear hb))
 go_ret
 exact ⟨rfl, HB.out⟩
set_option maxHeartbeats 1000000 in
set_option maxRecDepth 100000 in
theorem formatUintO_16 (u : Int) (hu : 0 ≤ u ∧ u < 4294967296) (w : World) (ht : QB.Tabs w) :
  Calls Tryd.prog 90 #[.int .u64 u, .int .i64 16] w fun e w' => e = .returned (.string (showB 16 u)) ∧ Below w.heap.size w w' := by
 have HC := Aside0.mk (formatUint_16 u hu w ht)
 clear ht hu
 go_enter Tryd.func90, Tryd.ntmps90
 go_wp2_with (first
  | (go_at_call 96; (with_reducible refine HC.out.mono ?_); rintro e w1 ⟨rfl, hb⟩; have HB := Aside0.mk hb; clear hb))
 go_ret
 exact ⟨rfl, HB.out⟩
set_option maxHeartbeats 1000000 in
set_option maxRecDepth 100000 in
theorem show16 (n : Int) (hn : 0 ≤ n ∧ n < 4294967296) (w : World) (ht : QB.Tabs w) :
  Calls Tryd.prog 82 #[.int .u32 n, .int .u32 16] w fun e w' => e = .returned (.tuple #[.string (showB 16 n), .int .i64 0]) ∧ Below w.heap.size w w' := by
 have HU := Aside0.mk (fun (W : World) (hT : QB.Tabs W) => formatUintO_16 n hn W hT)
 have HF := Aside0.mk (show digit_fit.f 16 = some true by kernel_rfl)
 have HT := Aside0.mk ht
 have e1 : IntKind.u64.wrap n = n := wrap_u64_id n hn.1 (by omega)
 clear hn ht
 go_enter Tryd.func82, Tryd.ntmps82
 go_wp2_with (first
  | (go_at_call 89; (with_reducible refine (digit_fit.calls _ _ _ HF.out).mono ?_); rintro e w1 ⟨rfl, hd⟩; have HB1 := Aside0.mk hd.below; have HT1 := Aside0.mk (HT.out.below hd.below); clear hd)
  | (go_at_call 90; (with_reducible refine (HU.out _ HT1.out).mono ?_); rintro e w2 ⟨rfl, hb⟩; have HB2 := Aside0.mk (below_step HB1.out hb); clear hb))
 go_ret2
 exact ⟨rfl, HB2.out⟩
def digit_Show.f (n b : Int) : Option (ByteArray × Int) := if (0 ≤ n ∧ n < 4294967296) ∧ b = 16 then some (showB 16 n, 0) else none
theorem digit_Show.calls (a0 : Int) (a1 : Int) (r1 : ByteArray) (r2 : Int) (w : World) (ht : QB.Tabs w) (h : digit_Show.f a0 a1 = some (r1, r2)) :
  Calls Tryd.prog 82 #[.int .u32 a0, .int .u32 a1] w fun e w' => e = .returned (.tuple #[.string r1, .int .i64 r2]) ∧ Below w.heap.size w w' := by
 unfold digit_Show.f at h
 split at h
 case isFalse => cases h
 rename_i hn
 obtain ⟨rfl, rfl⟩ := Prod.mk.inj (Option.some.inj h)
 obtain ⟨hn, rfl⟩ := hn
 exact show16 a0 hn w ht
end Go.Proofs.YtnalcjgefbelnaaDoor.Q
end
section
namespace Go.Proofs.YtnalcjgefbelnaaDoor.Q
open Go.RowKit Go.Proofs.YtnalcjgefbelnaaDoorW.PrintWords Go.Proofs.YtnalcjgefbelnaaDoorW.PrintLast Go.Proofs.YtnalcjgefbelnaaDoorW.PrintMore
set_option linter.unusedVariables false
set_option linter.unusedSimpArgs false

attribute [local go_sem] max2_int min2_int max_two min_two max_three min_three max_four min_four
/-! ### prop_ShowUnit: function 72 -/
def prop_ShowUnit.l0 : Nat → List ByteArray → List Int → Int → Int → Option (ByteArray)
 | 0, _, _, _, _ => none
 | k + 1, x3, x9, x10, x11 => if x11 < x10 then (if 0 ≤ x11 then (if x11 < (x9.length : Int) then ((digit_Show.f (rd x9 x11) 16).bind fun bt73005 => (if x11 < (x3.length : Int) then (prop_ShowUnit.l0 k (x3.set (x11 : Int).toNat bt73005.1) x9 x10 (wrap64 (x11 + 1))) else (none))) else (none)) else (none)) else ((strings_Join.f x3 (⟨#[44]⟩ : ByteArray)).bind fun t73008 => (some t73008))
def prop_ShowUnit.f (k : Nat) (l0 : List Int) : Option (ByteArray) := if 0 ≤ (l0.length : Int) then (if ((l0.length : Int) : Int).toNat ≤ 17592186044416 then (prop_ShowUnit.l0 k (List.replicate ((l0.length : Int) : Int).toNat (⟨#[]⟩ : ByteArray)) l0 (l0.length : Int) 0) else (none)) else (none)
set_option maxHeartbeats 8000000 in
set_option maxRecDepth 100000 in
theorem prop_ShowUnit.calls (k : Nat) (A0 : Option Addr) (c0 : Nat) (l0 : List Int) (r : ByteArray) (w : World) (ht : QB.Tabs w) (hr0 : Kd.C (Kd.int .u32) w A0 l0.length l0) (hc0 : l0.length ≤ c0) (h : prop_ShowUnit.f k l0 = some r) :
  Calls Tryd.prog 72 #[.slice A0 l0.length c0] w fun e w' => e = .returned (.string r) ∧ Below w.heap.size w w' := by
 have HR0 := Aside0.mk hr0
 have HC0 := Aside0.mk hc0
 clear hr0 hc0
 have HB := Aside0.mk (Below.refl w.heap.size w)
 have H : (if 0 ≤ (l0.length : Int) then (if ((l0.length : Int) : Int).toNat ≤ 17592186044416 then (prop_ShowUnit.l0 k (List.replicate ((l0.length : Int) : Int).toNat (⟨#[]⟩ : ByteArray)) l0 (l0.length : Int) 0) else (none)) else (none)) = some r := h
 clear h
 by_cases c2 : 0 ≤ (l0.length : Int)
 ·rw [if_pos c2] at H
  have c2b0 := eq_true c2
  have c2b1 : decide (0 ≤ (l0.length : Int)) = true := decide_eq_true c2
  clear c2
  by_cases c3 : ((l0.length : Int) : Int).toNat ≤ 17592186044416
  ·rw [if_pos c3] at H
   have c3b0 := eq_true c3
   have c3b1 : decide (((l0.length : Int) : Int).toNat ≤ 17592186044416) = true := decide_eq_true c3
   clear c3
   obtain ⟨y73001, hy73001⟩ : ∃ y_ : List ByteArray, y_ = (List.replicate ((l0.length : Int) : Int).toNat (⟨#[]⟩ : ByteArray)) := ⟨_, rfl⟩
   replace H : (prop_ShowUnit.l0 k y73001 l0 (l0.length : Int) 0) = some r := by first | (rw [hy73001]; with_reducible exact H) | (have H2_ := (Option.bind_some _ _).symm.trans H; rw [hy73001]; with_reducible exact H2_) | (have H2_ := (Option.bind_some _ _).symm.trans H; with_reducible exact H2_) | with_reducible exact H | (rw [hy73001]; exact H) | exact H
   have Ny73001 := Aside0.mk hy73001
   clear hy73001
   have H' := Aside0.mk H
   clear H
   go_enter Tryd.func72, Tryd.ntmps72
   go_wp2_with (first | ((with_reducible refine gate_dst (N := 8) rfl ?_); refine Kd.R_make Kd.string _ 9 rfl (N := 8) rfl 107 _ _ rfl (l0.length : Int) rfl rfl Tryd.underlying107 (.string ⟨#[]⟩) 16 info9 rfl (by decide) (by omega) (⟨#[]⟩ : ByteArray) (ok := fun _ => True) (okp := fun _ => True) rfl (fun _ hk => hk) trivial (of_decide_eq_true (by first | (with_reducible assumption) | assumption)) (Nat.le_trans (Nat.mul_le_mul_right _ (of_decide_eq_true (by first | (with_reducible assumption) | assumption) : (l0.length : Int).toNat ≤ 17592186044416)) (by omega)) (Below.refl _ _) (Nat.le_refl _) ?_; intro v73002 w4 ho5 hb hg_ hnew_; clear hg_ hnew_; (first | rw [← Ny73001.out] at ho5 | (simp only [Int.reduceToNat] at ho5; rw [← Ny73001.out] at ho5)); have n0_ := Aside0.mk (Kd.R_lower ho5 (below_size (by repeat (first | (with_reducible first | exact HB.out | apply below_alloc | apply pw_below_drewN | apply below_drew1) | exact HB.out)))); have n1_ := Aside0.mk (below_step (by repeat (first | (with_reducible first | exact HB.out | apply below_alloc | apply pw_below_drewN | apply below_drew1) | exact HB.out)) hb); clear HB; have HO73003 := n0_; have HB := n1_; clear n0_ n1_; clear hb ho5))
   go_loopg [11] k (fun kq v11 w' => ∃ (x3_1 : List ByteArray) (x11_1 : Int), v11 = .int .i64 x11_1 ∧ Aside0 (prop_ShowUnit.l0 kq x3_1 l0 (l0.length : Int) x11_1 = some r) ∧ Aside0 (kq ≤ k) ∧ Aside0 (Kd.R Kd.string 9 w' w.heap.size (fun _ => True) v73002 x3_1) ∧ Aside0 (Below w.heap.size w w'))
   case atStart => exact ⟨(y73001), (0), (by first | rfl | (simp; done) | (simp [*]; done)), H', ⟨Nat.le_refl _⟩, ⟨by (with_reducible repeat (first | apply Kd.R_alloc | apply Kd.R_drewN | apply Kd.R_drew)); exact HO73003.out⟩, ⟨by repeat (first | (with_reducible first | exact HB.out | apply below_alloc | apply pw_below_drewN | apply below_drew1) | exact HB.out)⟩⟩
   case round =>
    clear H'
    try clear c2
    try clear c2b0
    try clear c2b1
    try clear p2
    try clear c3
    try clear c3b0
    try clear c3b1
    obtain ⟨x3_1, x11_1, rfl, HA, HK1, HO_3, HB⟩ := hrel
    cases gk with
    | zero => exact absurd HA.out (by simp [prop_ShowUnit.l0])
    | succ k1 =>
     have H := HA.out
     clear HA
     simp only [prop_ShowUnit.l0] at H
     by_cases c6 : x11_1 < (l0.length : Int)
     ·rw [if_pos c6] at H
      have c6b0 : decide (x11_1 < (l0.length : Int)) = true := decide_eq_true c6
      clear c6
      by_cases c7 : 0 ≤ x11_1
      ·rw [if_pos c7] at H
       have c7b0 : decide (0 ≤ x11_1) = true := decide_eq_true c7
       clear c7
       by_cases c8 : x11_1 < (l0.length : Int)
       ·rw [if_pos c8] at H
        have c8b0 : decide (x11_1 < (l0.length : Int)) = true := decide_eq_true c8
        clear c8
        replace H := Option.bind_eq_some_iff.mp H
        obtain ⟨⟨t73005, t73006⟩, A90, H⟩ := H
        replace H : (if x11_1 < (x3_1.length : Int) then (prop_ShowUnit.l0 k1 (x3_1.set (x11_1 : Int).toNat t73005) l0 (l0.length : Int) (wrap64 (x11_1 + 1))) else (none)) = some r := H
        have A9 := Aside0.mk A90
        clear A90
        by_cases c10 : x11_1 < (x3_1.length : Int)
        ·rw [if_pos c10] at H
         have c10b0 : decide (x11_1 < (x3_1.length : Int)) = true := decide_eq_true c10
         clear c10
         obtain ⟨y73007, hy73007⟩ : ∃ y_ : List ByteArray, y_ = (x3_1.set (x11_1 : Int).toNat t73005) := ⟨_, rfl⟩
         replace H : (prop_ShowUnit.l0 k1 y73007 l0 (l0.length : Int) (wrap64 (x11_1 + 1))) = some r := by first | (rw [hy73007]; with_reducible exact H) | (have H2_ := (Option.bind_some _ _).symm.trans H; rw [hy73007]; with_reducible exact H2_) | (have H2_ := (Option.bind_some _ _).symm.trans H; with_reducible exact H2_) | with_reducible exact H | (rw [hy73007]; exact H) | exact H
         have Ny73007 := Aside0.mk hy73007
         clear hy73007
         have H' := Aside0.mk H
         clear H
         have p73004 : 0 ≤ (x11_1 : Int) := of_decide_eq_true (by first | (with_reducible assumption) | assumption)
         have q73004 : x11_1 < (l0.length : Int) := of_decide_eq_true (by first | (with_reducible assumption) | assumption)
         obtain ⟨ad73004, e73004, hx73004_0⟩ := Kd.at_int HR0.out x11_1 p73004 q73004
         cases e73004
         replace hx73004_0 := (HB.out.cell (World.block_lt_of_cell? w _ hx73004_0)).trans hx73004_0
         replace p73004 := eq_true p73004
         replace q73004 := eq_true q73004
         go_wp2_with (first | ((with_reducible refine gate_callee (f := 82) rfl ?_); refine goesL_ (some 20) rfl rfl Tryd.func82 (by kernel_rfl) rfl #[.int .u32 (rd l0 x11_1), .int .u32 16] rfl (by (try simp only [List.map_toArray, List.map_cons, List.map_nil]); first | done | rfl | (simp only [List.length_drop, List.length_take]; rfl)) ?_; (with_reducible refine (digit_Show.calls (rd l0 x11_1) 16 t73005 t73006 _ (QB.Tabs.below ht (by repeat (first | (with_reducible first | exact HB.out | apply below_alloc | apply pw_below_drewN | apply below_drew1 | refine below_set ?_ (Aside0.out (by assumption))) | exact HB.out))) A9.out).mono ?_); rintro e w12 ⟨rfl, hb⟩; refine ⟨_, rfl, ?_⟩; have n0_ := Aside0.mk (Kd.R_below (by (with_reducible repeat (first | apply Kd.R_alloc | apply Kd.R_drewN | apply Kd.R_drew)); exact HO_3.out) hb); have n1_ := Aside0.mk (below_step (by repeat (first | (with_reducible first | exact HB.out | apply below_alloc | apply pw_below_drewN | apply below_drew1) | exact HB.out)) hb); clear HO_3; clear HB; have HO_3 := n0_; have HB := n1_; clear n0_ n1_; (try clear hb); (try clear hb2); (try clear hk); (try clear hi); have p11 : 0 ≤ (x11_1 : Int) := of_decide_eq_true (by first | (with_reducible assumption) | assumption); have q11 : (x11_1 : Int) < ((x3_1.length : Int) : Int) := of_decide_eq_true (by first | (with_reducible assumption) | assumption); obtain ⟨go11, co11, eo11, gb11, gl11, cl11, HG11⟩ := Kd.R_form HO_3.out (by omega); (first | cases eo11 | (injection eo11 with ea_ en_ ec_; (first | subst ea_ | (injection ea_ with ea_; subst ea_)); subst ec_; clear en_)); have GB11 := Aside0.mk gb11; have GG11 := Aside0.mk HG11; clear gb11 gl11 HG11; obtain ⟨hx11_0, hf11_0⟩ := Kd.R_celln (⟨#[]⟩ : ByteArray) HO_3.out (x11_1 : Int) p11 q11; replace p11 := eq_true p11; replace q11 := eq_true q11; obtain ⟨hy13_, hz13_⟩ := Kd.R_celln (⟨#[]⟩ : ByteArray) HO_3.out (x11_1 : Int) (of_decide_eq_true (by first | (with_reducible assumption) | assumption)) (of_decide_eq_true (by first | (with_reducible assumption) | assumption)); have HP13 := Kd.R_putg HO_3.out (x11_1 : Int) t73005) | ((with_reducible refine gate_store (t := 9) (p := 23) rfl ?_); refine store_event (t := 9) (p := 23) (v := ?vo_w14) (w1 := (w12.setCell ⟨go11, (x11_1 : Int).toNat, none⟩ (.string t73005))) ?hg ?ho ?hn ?hr ?_; (case ho => rfl); (case hg => rfl); (case hn => rfl); (case hr => first | (go_simp; done) | (go_simp; rfl)); intro w14 hw; have hg : w12.grownBy w14 (some go11) := (by rw [hw]; exact HP13.2); have hp_ : Kd.R Kd.string 9 w14 w.heap.size (fun _ => True) (.slice (some ⟨go11, 0, none⟩) x3_1.length co11) y73007 := (by rw [hw, Ny73007.out]; exact HP13.1); clear HP13; have n0_ := Aside0.mk (hp_); have n1_ := Aside0.mk ((by rw [hw]; exact below_set (HB.out) GB11.out : Below w.heap.size w w14)); clear HO_3; clear HB; have HO_3 := n0_; have HB := n1_; clear n0_ n1_; clear hg hw hp_))
         go_roundg k1
         case measure => have := HK1.out; omega
         case rel => exact ⟨(y73007), (wrap64 (x11_1 + 1)), (by first | rfl | (simp; done) | (simp [*]; done)), H', ⟨by have := HK1.out; omega⟩, ⟨by (with_reducible repeat (first | apply Kd.R_alloc | apply Kd.R_drewN | apply Kd.R_drew)); exact HO_3.out⟩, ⟨by repeat (first | (with_reducible first | exact HB.out | apply below_alloc | apply pw_below_drewN | apply below_drew1) | exact HB.out)⟩⟩
        ·rw [if_neg c10] at H
         exact absurd H (by simp)
       ·rw [if_neg c8] at H
        exact absurd H (by simp)
      ·rw [if_neg c7] at H
       exact absurd H (by simp)
     ·rw [if_neg c6] at H
      have c6b0 : decide (x11_1 < (l0.length : Int)) = false := decide_eq_false c6
      clear c6
      replace H := Option.bind_eq_some_iff.mp H
      obtain ⟨t73008, A150, H⟩ := H
      replace H : (some t73008) = some r := H
      have A15 := Aside0.mk A150
      clear A150
      obtain rfl := Option.some.inj H
      obtain ⟨Ao16, co16, eo16⟩ := Kd.R_slice HO_3.out
      subst eo16
      go_wp2_with (first | ((with_reducible refine gate_callee (f := 83) rfl ?_); refine goesL_ (some 26) rfl rfl Tryd.func83 (by kernel_rfl) rfl #[.slice Ao16 x3_1.length co16, .string (⟨#[44]⟩ : ByteArray)] rfl (by (try simp only [List.map_toArray, List.map_cons, List.map_nil]); first | done | rfl | (simp only [List.length_drop, List.length_take]; rfl)) ?_; (with_reducible refine (strings_Join.calls _ _ x3_1 (⟨#[44]⟩ : ByteArray) t73008 _ ?side1 ?side2 A15.out).mono ?_); (case side1 => repeat (first | exact (Kd.R_reads' HO_3.out).2.2 | (with_reducible refine Kd.C_alloc ?_ _) | (with_reducible refine Kd.C_drewN ?_ _) | (with_reducible refine Kd.C_drew ?_))); (case side2 => exact (Kd.R_reads' HO_3.out).2.1); rintro e w17 ⟨rfl, hb⟩; refine ⟨_, rfl, ?_⟩; have n0_ := Aside0.mk (Kd.R_below (by (with_reducible repeat (first | apply Kd.R_alloc | apply Kd.R_drewN | apply Kd.R_drew)); exact HO_3.out) hb); have n1_ := Aside0.mk (below_step (by repeat (first | (with_reducible first | exact HB.out | apply below_alloc | apply pw_below_drewN | apply below_drew1) | exact HB.out)) hb); clear HO_3; clear HB; have HO_3 := n0_; have HB := n1_; clear n0_ n1_; (try clear hb); (try clear hb2); (try clear hk); (try clear hi)))
      go_ret
      exact ⟨by first | rfl | (simp [errW_none, errW_some] <;> rfl) | (simp [*, errW_none, errW_some] <;> rfl), by repeat (first | (with_reducible first | exact HB.out | apply below_alloc | apply pw_below_drewN | apply below_drew1) | exact HB.out)⟩
  ·rw [if_neg c3] at H
   exact absurd H (by simp)
 ·rw [if_neg c2] at H
  exact absurd H (by simp)

end Go.Proofs.YtnalcjgefbelnaaDoor.Q
end
section
namespace Go.Proofs.YtnalcjgefbelnaaDoor.Q
open Go.RowKit Go.Proofs.YtnalcjgefbelnaaDoorW.PrintWords Go.Proofs.YtnalcjgefbelnaaDoorW.PrintLast Go.Proofs.YtnalcjgefbelnaaDoorW.PrintMore
def digS (d : Int) : ByteArray := ⟨[UInt8.ofNat (chN d.toNat)].toArray⟩
def preL (kq : Nat) (b u : Int) : List UInt8 := if kq = 0 then [] else showL b.toNat u.toNat
def tinderref02_Show.f (n b : Int) : Option (ByteArray × Int) := if 0 ≤ n ∧ n < 4294967296 then (if 2 ≤ b ∧ b ≤ 36 then some (showB b n, 0) else some (⟨#[]⟩, 1)) else none
end Go.Proofs.YtnalcjgefbelnaaDoor.Q
end
section
namespace Go.Proofs.YtnalcjgefbelnaaDoor.Q
open Go.RowKit Go.Proofs.YtnalcjgefbelnaaDoorW.PrintWords Go.Proofs.YtnalcjgefbelnaaDoorW.PrintLast Go.Proofs.YtnalcjgefbelnaaDoorW.PrintMore
set_option linter.unusedVariables false
set_option linter.unusedSimpArgs false

attribute [local go_sem] max2_int min2_int max_two min_two max_three min_three max_four min_four
/-! ### tinderref05_ShowUnit: function 75 -/
def tinderref05_ShowUnit.l0 : Nat → List Int → List Int → Int → Option (ByteArray)
 | 0, _, _, _ => none
 | k + 1, x0, x3, x4 => if x4 < (x0.length : Int) then (if x4 > 0 then (if x3.length < 140737488355328 then ((some (x3 ++ [44] : List Int)).bind fun y76001 => (if 0 ≤ x4 then ((tinderref02_Show.f (rd x0 x4) 16).bind fun bt76005 => (if y76001.length + bt76005.1.size < 140737488355328 then (tinderref05_ShowUnit.l0 k x0 (y76001 ++ bytesOf bt76005.1) (wrap64 (x4 + 1))) else (none))) else (none))) else (none)) else (if 0 ≤ x4 then ((tinderref02_Show.f (rd x0 x4) 16).bind fun bt76011 => (if x3.length + bt76011.1.size < 140737488355328 then (tinderref05_ShowUnit.l0 k x0 (x3 ++ bytesOf bt76011.1) (wrap64 (x4 + 1))) else (none))) else (none))) else (some (strOfNums x3))
def tinderref05_ShowUnit.f (k : Nat) (l0 : List Int) : Option (ByteArray) := tinderref05_ShowUnit.l0 k l0 ([] : List Int) 0

end Go.Proofs.YtnalcjgefbelnaaDoor.Q
end
section
set_option linter.unusedSimpArgs false
set_option linter.unusedVariables false
namespace Go.Proofs.YtnalcjgefbelnaaDoor.Q
open Go.RowKit Go.Proofs.YtnalcjgefbelnaaDoorW.PrintWords Go.Proofs.YtnalcjgefbelnaaDoorW.PrintLast
def shL (v : Int) : List UInt8 := showL 16 v.toNat
def unitsL (l : List Int) : List UInt8 := Lib.join (l.map shL) [44]
def unitsB (l : List Int) : ByteArray := ⟨(unitsL l).toArray⟩
def U32L (l : List Int) : Prop := ∀ a ∈ l, 0 ≤ a ∧ a < 4294967296
theorem join_snoc (xs : List (List UInt8)) (x : List UInt8) (sep : List UInt8) (h : xs ≠ []) : Lib.join (xs ++ [x]) sep = Lib.join xs sep ++ sep ++ x := by
 cases xs with
 | nil => exact absurd rfl h
 | cons y ys =>
  rw [List.cons_append, Lib.join_cons, Lib.join_cons]
  unfold Lib.joinTail
  rw [List.map_append, List.flatten_append]
  simp [List.append_assoc]
theorem shL_len (v : Int) (h : 0 ≤ v ∧ v < 4294967296) : (shL v).length ≤ 32 := showL_len 16 (by decide) 31 v.toNat (by have : (2 : Nat) ^ (31 + 1) = 4294967296 := by decide
                                                                                                                        omega)
theorem units_one (v : Int) : unitsL [v] = shL v := Lib.join_one _ _
theorem units_snoc (l : List Int) (v : Int) (h : l ≠ []) : unitsL (l ++ [v]) = unitsL l ++ [44] ++ shL v := by
 unfold unitsL
 rw [List.map_append, List.map_singleton, join_snoc _ _ _ (by simpa using h)]
theorem take_succ' {α : Type} (l : List α) (i : Nat) (h : i < l.length) : l.take (i + 1) = l.take i ++ [l[i]] := by
 rw [List.take_succ_eq_append_getElem h]
theorem units_len (l : List Int) (hl : U32L l) : ∀ i, i ≤ l.length → (unitsL (l.take i)).length ≤ 33 * i
 | 0, _ => by simp [unitsL, Lib.join_nil]
 | i + 1, h => by
  have ih := units_len l hl i (by omega)
  rw [take_succ' l i (by omega)]
  have hs := shL_len l[i] (hl _ (List.getElem_mem _))
  by_cases h0 : i = 0
  ·subst h0
   rw [List.take_zero, List.nil_append, units_one]
   omega
  ·rw [units_snoc _ _ (fun e => by have := congrArg List.length e; rw [List.length_take, List.length_nil] at this; omega)]
   rw [List.length_append, List.length_append, List.length_singleton]
   omega
theorem rd_get (l : List Int) (i : Nat) (h : i < l.length) : rd l (i : Int) = l[i] := by
 unfold rd
 rw [Int.toNat_natCast, List.getD_eq_getElem?_getD, List.getElem?_eq_getElem h]
 rfl
theorem bytesOf_mk (L : List UInt8) : bytesOf ⟨L.toArray⟩ = L.map fun b => (b.toNat : Int) := rfl
theorem strOf_bytes (L : List UInt8) : strOfNums (L.map fun b => (b.toNat : Int)) = ⟨L.toArray⟩ := by
 unfold strOfNums
 rw [List.map_map]
 congr 2
 conv => rhs; rw [← List.map_id L]
 apply List.map_congr_left
 intro c _
 exact UInt8.toNat_inj.1 (by simp)
theorem refshow_eq (v : Int) (h : 0 ≤ v ∧ v < 4294967296) : tinderref02_Show.f v 16 = some (⟨(shL v).toArray⟩, 0) := by
 unfold tinderref02_Show.f
 rw [if_pos h, if_pos (by decide)]
 rfl
theorem show_eq (v : Int) (h : 0 ≤ v ∧ v < 4294967296) : digit_Show.f v 16 = some (⟨(shL v).toArray⟩, 0) := by
 unfold digit_Show.f
 rw [if_pos ⟨h, rfl⟩]
 rfl
theorem refunits_go (l : List Int) (hl : U32L l) (hn : l.length ≤ 1000000000) : ∀ (d k i : Nat), i + d = l.length → d + 1 ≤ k → tinderref05_ShowUnit.l0 k l ((unitsL (l.take i)).map fun b => (b.toNat : Int)) (i : Int) = some (unitsB l)
 | 0, k, i, hi, hk => by
  obtain ⟨k, rfl⟩ : ∃ m, k = m + 1 := ⟨k - 1, by omega⟩
  unfold tinderref05_ShowUnit.l0
  rw [if_neg (by omega), List.take_of_length_le (by omega), strOf_bytes]
  rfl
 | d + 1, k, i, hi, hk => by
  obtain ⟨k, rfl⟩ : ∃ m, k = m + 1 := ⟨k - 1, by omega⟩
  have hb := hl l[i] (List.getElem_mem _)
  have hlen := units_len l hl i (by omega)
  have hs := shL_len l[i] hb
  have e1 : wrap64 ((i : Int) + 1) = ((i + 1 : Nat) : Int) := by unfold wrap64; omega
  have ih := refunits_go l hl hn d k (i + 1) (by omega) (by omega)
  have hsz : (⟨(shL l[i]).toArray⟩ : ByteArray).size = (shL l[i]).length := by simp [ByteArray.size]
  unfold tinderref05_ShowUnit.l0
  rw [if_pos (by omega), rd_get l i (by omega), refshow_eq _ hb]
  by_cases h0 : i = 0
  ·subst h0
   rw [if_neg (by omega), if_pos (by omega), Option.bind_some]
   dsimp only
   rw [if_pos (by rw [List.length_map, hsz]; omega), e1, bytesOf_mk]
   rw [take_succ' l 0 (by omega), List.take_zero, List.nil_append, units_one] at ih
   rw [List.take_zero, show unitsL [] = [] from rfl, List.map_nil, List.nil_append]
   exact ih
  ·rw [if_pos (by omega), if_pos (by rw [List.length_map]; omega), Option.bind_some, if_pos (by omega), Option.bind_some]
   dsimp only
   rw [if_pos (by rw [List.length_append, List.length_map, hsz, List.length_singleton]; omega), e1, bytesOf_mk]
   rw [take_succ' l i (by omega), units_snoc _ _ (fun e => by have := congrArg List.length e; rw [List.length_take, List.length_nil] at this; omega), List.map_append, List.map_append] at ih
   exact ih
theorem refunits_eq (k : Nat) (l : List Int) (hl : U32L l) (hn : l.length ≤ 1000000000) (hk : l.length + 1 ≤ k) : tinderref05_ShowUnit.f k l = some (unitsB l) := by
 have h := refunits_go l hl hn l.length k 0 (by omega) hk
 exact h
theorem units_go (l : List Int) (hl : U32L l) (hn : l.length ≤ 1000000000) : ∀ (d k i : Nat), i + d = l.length → d + 1 ≤ k → prop_ShowUnit.l0 k ((l.take i).map (fun v => (⟨(shL v).toArray⟩ : ByteArray)) ++ List.replicate d (⟨#[]⟩ : ByteArray)) l (l.length : Int) (i : Int) = some (unitsB l)
 | 0, k, i, hi, hk => by
  obtain ⟨k, rfl⟩ : ∃ m, k = m + 1 := ⟨k - 1, by omega⟩
  unfold prop_ShowUnit.l0
  have hlen := units_len l hl l.length (Nat.le_refl _)
  rw [List.take_length] at hlen
  have e : joinB (l.map (fun v => (⟨(shL v).toArray⟩ : ByteArray))) ⟨#[44]⟩ = unitsB l := by
   unfold joinB unitsB unitsL
   rw [List.map_map]
   rfl
  rw [if_neg (by omega), List.take_of_length_le (by omega), List.replicate_zero, List.append_nil]
  unfold strings_Join.f
  rw [e, if_pos ⟨by rw [List.length_map]; omega, by show (unitsL l).toArray.size ≤ _; rw [List.size_toArray]; omega⟩]
  rfl
 | d + 1, k, i, hi, hk => by
  obtain ⟨k, rfl⟩ : ∃ m, k = m + 1 := ⟨k - 1, by omega⟩
  have hb := hl l[i] (List.getElem_mem _)
  have e1 : wrap64 ((i : Int) + 1) = ((i + 1 : Nat) : Int) := by unfold wrap64; omega
  have ih := units_go l hl hn d k (i + 1) (by omega) (by omega)
  have hml : ((l.take i).map (fun v => (⟨(shL v).toArray⟩ : ByteArray))).length = i := by rw [List.length_map, List.length_take]; omega
  unfold prop_ShowUnit.l0
  rw [if_pos (by omega), if_pos (by omega), if_pos (by omega), rd_get l i (by omega), show_eq _ hb, Option.bind_some, if_pos (by rw [List.length_append, hml, List.length_replicate]; omega), e1]
  rw [take_succ' l i (by omega), List.map_append, List.map_singleton, List.append_assoc] at ih
  rw [Int.toNat_natCast, List.set_append_right _ _ (by omega), hml, Nat.sub_self, List.replicate_succ, List.set_cons_zero]
  exact ih
theorem units_eq (k : Nat) (l : List Int) (hl : U32L l) (hn : l.length ≤ 1000000000) (hk : l.length + 1 ≤ k) : prop_ShowUnit.f k l = some (unitsB l) := by
 have h := units_go l hl hn l.length k 0 (by omega) hk
 unfold prop_ShowUnit.f
 rw [if_pos (by omega), Int.toNat_natCast, if_pos (by omega)]
 exact h
end Go.Proofs.YtnalcjgefbelnaaDoor.Q
end
section
set_option linter.unusedSimpArgs false
set_option linter.unusedVariables false
namespace Go.Proofs.YtnalcjgefbelnaaDoor.Q
open Go.RowKit Go.Shelf Go.Proofs.YtnalcjgefbelnaaDoorW.PrintWords Go.Proofs.YtnalcjgefbelnaaDoorW.PrintLast Go.Proofs.YtnalcjgefbelnaaDoorW.PrintMore
attribute [local go_sem] max2_int min2_int max_two min_two max_three min_three max_four min_four
def okP (x : S49) : Bool := namedF x.f0 && decide (x.f1.length ≤ 4) && !decide (0 ≤ Lib.indexByte x.f2.data.toList 47)
def stepB (x : S49) : List UInt8 := (47 :: x.f0.data.toList) ++ (if 0 < x.f1.length then 64 :: unitsL x.f1 else []) ++ (if x.f2.size = 0 then [] else 58 :: x.f2.data.toList)
def pathL (l : List S49) : List UInt8 := (l.map stepB).flatten
def showP (l : List S49) : ByteArray × Int := if l.length = 0 then (⟨#[47]⟩, 0) else if l.all okP = true then (if 256 < (pathL l).length then (⟨#[]⟩, 3) else (⟨(pathL l).toArray⟩, 0)) else (⟨#[]⟩, 1)
theorem pathL_snoc (l : List S49) (x : S49) : pathL (l ++ [x]) = pathL l ++ stepB x := by
 unfold pathL
 rw [List.map_append, List.flatten_append]
 simp
theorem pathL_take (l : List S49) : ∀ i, (pathL (l.take i)).length ≤ (pathL l).length := by
 intro i
 have h : pathL l = pathL (l.take i) ++ pathL (l.drop i) := by
  unfold pathL
  rw [← List.flatten_append, ← List.map_append, List.take_append_drop]
 rw [h, List.length_append]
 omega
theorem cells_app (a b : List UInt8) : Lib.byteCells (a ++ b) = Lib.byteCells a ++ Lib.byteCells b := by unfold Lib.byteCells; rw [List.map_append]
theorem units_ge : ∀ l : List Int, l.length ≤ (unitsL l).length + 1
 | [] => by simp
 | [v] => by simp
 | v :: u :: l => by
  have ih := units_ge (u :: l)
  unfold unitsL at ih ⊢
  rw [List.map_cons, List.map_cons, Lib.join_cons]
  rw [List.map_cons, Lib.join_cons] at ih
  unfold Lib.joinTail at ih ⊢
  rw [List.map_cons, List.flatten_cons]
  simp only [List.length_append, List.length_cons, List.length_nil] at ih ⊢
  omega
theorem writeL (b : Nat) (P : List UInt8) (s : ByteArray) (W : World) (h : Lib.IsBuilder 94 5 b b (Lib.byteCells P) W) (hl : P.length + s.size ≤ 140737488355328) (hB : b ≤ W.heap.size) :
  Calls Tryd.prog 71 #[.pointer (some ⟨b, 0, none⟩), .string s] W fun e w' => e = .returned (.tuple #[.int .i64 s.size, .nilIface]) ∧ Lib.IsBuilder 94 5 b b (Lib.byteCells (P ++ s.data.toList)) w' ∧ Below b W w' ∧ KeepT b W w' := by
 refine (write_calls b b (Lib.byteCells P) s W h (by rw [Lib.byteCells_length]; exact hl) hB).mono ?_
 rintro e w' ⟨rfl, h1, h2, h3⟩
 refine ⟨rfl, .inr ?_, h2, h3⟩
 rw [cells_app]
 exact h1
theorem rd_T49_get (l : List S49) (i : Int) (h0 : 0 ≤ i) (h : i < l.length) : rd_T49 l i = l[i.toNat]'(by omega) := by
 unfold rd_T49
 rw [List.getD_eq_getElem?_getD, List.getElem?_eq_getElem (by omega)]
 rfl
set_option maxRecDepth 100000 in
set_option maxHeartbeats 8000000 in
theorem show_calls (A : Option Addr) (c : Nat) (l : List S49) (w : World) (ht : QB.Tabs w) (hC : Kd.C k49 w A l.length l) (hc : l.length ≤ c) (hU : ∀ x ∈ l, U32L x.f1) (hl : l.length ≤ 1000000000) (hP : (pathL l).length ≤ 1000000000) :
  Calls Tryd.prog 59 #[.slice A l.length c] w fun e w' => e = .returned (.tuple #[.string (showP l).1, .int .i64 (showP l).2]) ∧ Below w.heap.size w w' := by
 obtain ⟨R, hR⟩ : ∃ R, R = showP l := ⟨_, rfl⟩
 rw [← hR]
 by_cases h0 : l.length = 0
 ·have HR := Aside0.mk (show R = (⟨#[47]⟩, 0) by rw [hR]; unfold showP; rw [if_pos h0])
  have d0 : ((l.length : Int) == 0) = true := by rw [h0]; rfl
  clear hR hC hc hU hl hP h0 ht
  go_enter Tryd.func59, Tryd.ntmps59
  go_wp2
  go_ret2
  exact ⟨by rw [HR.out]; rfl, Below.refl _ _⟩
 have d0 : ((l.length : Int) == 0) = false := beq_eq_false_iff_ne.2 (by omega)
 have HR := Aside0.mk (show R = if l.all okP = true then (if 256 < (pathL l).length then (⟨#[]⟩, 3) else (⟨(pathL l).toArray⟩, 0)) else (⟨#[]⟩, 1) by rw [hR]; unfold showP; rw [if_neg h0])
 have HC := Aside0.mk hC
 have HT := Aside0.mk ht
 have HU := Aside0.mk hU
 have HL := Aside0.mk hl
 have HP := Aside0.mk hP
 clear hR hC hc hU hl hP h0 ht
 go_enter Tryd.func59, Tryd.ntmps59
 go_wp2
 go_loopg [12] l.length (fun kq v12 w' => ∃ i : Int, v12 = .int .i64 i ∧ Aside0 (0 ≤ i ∧ i + kq = l.length) ∧ Aside0 (∀ x ∈ l.take i.toNat, okP x = true) ∧ Aside0 (Lib.IsBuilder 94 5 w.heap.size w.heap.size (Lib.byteCells (pathL (l.take i.toNat))) w') ∧ Aside0 (Below w.heap.size w w'))
 case atStart =>
  refine ⟨0, rfl, ⟨by omega, by omega⟩, ⟨fun x hx => by simp at hx⟩, ⟨.inl ⟨Nat.le_refl _, .slice none 0 0, heap_alloc_new w _, World.ownsRow_nil _ _ _ _, by simp [Value.ownBlock]⟩⟩, ⟨below_alloc (Below.refl _ _) _⟩⟩
 case round =>
  obtain ⟨i, rfl, HI, HO, HW, HB⟩ := hrel
  cases gk with
  | zero =>
   have hi := HI.out
   have hil : i = (l.length : Int) := by omega
   have ho := HO.out
   have hw := HW.out
   rw [hil, Int.toNat_natCast, List.take_length] at ho hw
   have hR := HR.out
   rw [if_pos (List.all_eq_true.2 ho)] at hR
   have hlt : decide (i < (l.length : Int)) = false := decide_eq_false (by omega)
   have HLN := Aside0.mk (Tryd.Builder_Len w.heap.size w.heap.size _ wr hw)
   rw [Lib.byteCells_length] at HLN
   have HST := Aside0.mk (Tryd.Builder_String_any w.heap.size w.heap.size (pathL l) wr hw HB.out.size)
   by_cases hb : 256 < (pathL l).length
   ·rw [if_pos hb] at hR
    have d1 : decide (256 < ((pathL l).length : Int)) = true := decide_eq_true (by omega)
    have HE := Aside0.mk hR
    generalize (pathL l).length = n at HLN d1
    clear hi hil ho hw hR HST HI HO HW HC HT HU HP hb
    go_wp2_with (go_at_call 73; (with_reducible refine HLN.out.mono ?_); rintro e w7 ⟨rfl, rfl⟩)
    go_ret2
    exact ⟨by rw [HE.out]; rfl, HB.out⟩
   ·rw [if_neg hb] at hR
    have d1 : decide (256 < ((pathL l).length : Int)) = false := decide_eq_false (by omega)
    have HE := Aside0.mk hR
    generalize (pathL l).length = n at HLN d1
    generalize (⟨(pathL l).toArray⟩ : ByteArray) = S at HST HE
    clear hi hil ho hw hR HI HO HW HC HT HU HP hb
    go_wp2_with (first
     | (go_at_call 73; (with_reducible refine HLN.out.mono ?_); rintro e w7 ⟨rfl, rfl⟩)
     | (go_at_call 74; (with_reducible refine HST.out.mono ?_); rintro e w8 ⟨rfl, hb⟩; have HB2 := Aside0.mk (HB.out.trans hb); clear hb))
    go_ret2
    exact ⟨by rw [HE.out]; rfl, HB2.out⟩
  | succ k1 =>
   have hi := HI.out
   have hlt : decide (i < (l.length : Int)) = true := decide_eq_true (by omega)
   have hlen := HL.out
   have hw1 : IntKind.i64.wrap (i + 1) = i + 1 := (i64_w _).trans (by unfold wrap64; omega)
   have hw2 : wrap64 (i + 1) = i + 1 := by unfold wrap64; omega
   have p1 : (0 ≤ i) = True := eq_true (by omega)
   have p2 : (i < (l.length : Int)) = True := eq_true (by omega)
   obtain ⟨ad, A1, c1, rfl, e0, e1, e2, hc1, hC1⟩ := at_T49 HC.out i (by omega) (by omega)
   have hxm : rd_T49 l i ∈ l := by rw [rd_T49_get l i (by omega) (by omega)]; exact List.getElem_mem _
   have htk : l.take (i + 1).toNat = l.take i.toNat ++ [rd_T49 l i] := by
    rw [show (i + 1).toNat = i.toNat + 1 by omega, take_succ' l i.toNat (by omega), rd_T49_get l i (by omega) (by omega)]
   have hux := HU.out _ hxm
   have hpl := pathL_take l (i + 1).toNat
   rw [htk, pathL_snoc, List.length_append] at hpl
   obtain ⟨x, hx⟩ : ∃ x, x = rd_T49 l i := ⟨_, rfl⟩
   rw [← hx] at e0 e1 e2 hc1 hC1 hxm htk hux hpl
   have hpP := HP.out
   have f0 : wr.cell? (ad.add (i.toNat * 3)) = some (.string x.f0) := by rw [HB.out.cell (World.block_lt_of_cell? w _ e0)]; exact e0
   have f1 : wr.cell? ⟨(ad.add (i.toNat * 3)).block, (ad.add (i.toNat * 3)).off + 1, none⟩ = some (.slice A1 x.f1.length c1) := by rw [HB.out.cell (World.block_lt_of_cell? w _ e1)]; exact e1
   have f2 : wr.cell? ⟨(ad.add (i.toNat * 3)).block, (ad.add (i.toNat * 3)).off + 2, none⟩ = some (.string x.f2) := by rw [HB.out.cell (World.block_lt_of_cell? w _ e2)]; exact e2
   have HX := Aside0.mk (show Kd.C (Kd.int .u32) w A1 x.f1.length x.f1 ∧ x.f1.length ≤ c1 ∧ U32L x.f1 ∧ x.f1.length ≤ 1000000000 from ⟨hC1, hc1, hux, by
    have h2 : x.f1.length ≤ (stepB x).length ∨ x.f1.length = 0 := by
     by_cases h : 0 < x.f1.length
     ·left
      unfold stepB
      rw [if_pos h]
      simp only [List.length_append, List.length_cons]
      have h3 : x.f1.length ≤ (unitsL x.f1).length + 1 := units_ge x.f1
      omega
     ·right; omega
    omega⟩)
   have HTK := Aside0.mk htk
   have HPL := Aside0.mk hpl
   have HXM := Aside0.mk hxm
   clear e0 e1 e2 hc1 hC1 hxm htk hux hx hpl
   go_upto_region 7 with (fail)
   obtain ⟨Y, hY⟩ : ∃ Y, Y = wr.alloc (.cells #[.string x.f0, .slice A1 x.f1.length c1, .string x.f2] 49) := ⟨_, rfl⟩
   obtain ⟨g6, hg6⟩ : ∃ g6, g6 = wr.heap.size := ⟨_, rfl⟩
   have K6 := Aside0.mk (show Y.heap[g6]? = some (.cells #[.string x.f0, .slice A1 x.f1.length c1, .string x.f2] 49 (0, 0)) by rw [hY, hg6]; exact heap_alloc_new wr _)
   have HBY := Aside0.mk (show Below w.heap.size w Y by rw [hY]; exact below_alloc HB.out _)
   have HWY := Aside0.mk (show Lib.IsBuilder 94 5 w.heap.size w.heap.size (Lib.byteCells (pathL (l.take i.toNat))) Y by rw [hY]; exact IsBuilder_below HW.out (below_alloc (Below.refl _ _) _))
   have HG := Aside0.mk (show g6 ≠ w.heap.size by
    have := HW.out
    have hlt2 : w.heap.size < wr.heap.size := by
     rcases this with h | h <;> exact h.lt
    omega)
   rw [← hY, ← hg6]
   clear hY hg6 f0 f1 f2 HB HW
   have k0 := (blk_cell K6.out 0).trans rfl
   have k1' := (blk_cell K6.out 1).trans rfl
   have k2' := (blk_cell K6.out 2).trans rfl
   have HN := Aside0.mk (show prop_Named.f 100 x.f0 = some (namedF x.f0) from named_eq 100 (by omega) x.f0)
   have HCT := Aside0.mk (fun W : World => Tryd.strings_Contains_one x.f2 47 W)
   by_cases hn : namedF x.f0 = true
   ·rw [hn] at HN
    by_cases hu : 4 < x.f1.length
    ·have du : decide (4 < (x.f1.length : Int)) = true := decide_eq_true (by omega)
     have HE := Aside0.mk (show R = (⟨#[]⟩, 1) by
      have hR := HR.out
      rw [if_neg (fun h => by
       have := List.all_eq_true.1 h x HXM.out
       rw [okP, decide_eq_false (show ¬ x.f1.length ≤ 4 by omega)] at this
       simp at this)] at hR
      exact hR)
     clear hi HX HTK HPL HWY HC HT HU HP hpP hlen
     go_wp2_with (first
      | (go_at_call 41; (with_reducible refine (prop_Named.calls 100 x.f0 _ _ HN.out).mono ?_); rintro e w1 ⟨rfl, hd⟩; have HBN := Aside0.mk (below_step HBY.out hd); have K6N := Aside0.mk (blk_below K6.out hd); have k0n := (blk_cell K6N.out 0).trans rfl; have k1n := (blk_cell K6N.out 1).trans rfl; have k2n := (blk_cell K6N.out 2).trans rfl)
      | (go_at_call 70; (with_reducible refine (HCT.out _).mono ?_); rintro e w1 ⟨rfl, rfl⟩))
     go_ret2
     exact ⟨by rw [HE.out]; rfl, HBN.out⟩
    ·have du : decide (4 < (x.f1.length : Int)) = false := decide_eq_false (by omega)
     by_cases hs : 0 ≤ Lib.indexByte x.f2.data.toList 47
     ·rw [decide_eq_true hs] at HCT
      have HE := Aside0.mk (show R = (⟨#[]⟩, 1) by
       have hR := HR.out
       rw [if_neg (fun h => by
        have := List.all_eq_true.1 h x HXM.out
        rw [okP, decide_eq_true hs] at this
        simp at this)] at hR
       exact hR)
      clear hi HX HTK HPL HWY HC HT HU HP hpP hlen
      go_wp2_with (first
       | (go_at_call 41; (with_reducible refine (prop_Named.calls 100 x.f0 _ _ HN.out).mono ?_); rintro e w1 ⟨rfl, hd⟩; have HBN := Aside0.mk (below_step HBY.out hd); have K6N := Aside0.mk (blk_below K6.out hd); have k0n := (blk_cell K6N.out 0).trans rfl; have k1n := (blk_cell K6N.out 1).trans rfl; have k2n := (blk_cell K6N.out 2).trans rfl)
       | (go_at_call 70; (with_reducible refine (HCT.out _).mono ?_); rintro e w1 ⟨rfl, rfl⟩))
      go_ret2
      exact ⟨by rw [HE.out]; rfl, HBN.out⟩
     ·rw [decide_eq_false hs] at HCT
      have HOK := Aside0.mk (show okP x = true by unfold okP; rw [hn, decide_eq_false hs, decide_eq_true (show x.f1.length ≤ 4 by omega)]; rfl)
      have hstep : (stepB x).length = 1 + x.f0.size + (if 0 < x.f1.length then 1 + (unitsL x.f1).length else 0) + (if x.f2.size = 0 then 0 else 1 + x.f2.size) := by
       unfold stepB
       rw [List.length_append, List.length_append, List.length_cons, data_length]
       have a1 : (if 0 < x.f1.length then 64 :: unitsL x.f1 else []).length = if 0 < x.f1.length then 1 + (unitsL x.f1).length else 0 := by
        split
        ·rw [List.length_cons]; omega
        ·rfl
       have a2 : (if x.f2.size = 0 then [] else 58 :: x.f2.data.toList).length = if x.f2.size = 0 then 0 else 1 + x.f2.size := by
        split
        ·rfl
        ·rw [List.length_cons, data_length]; omega
       rw [a1, a2]
       omega
      have hpl := HPL.out
      have s1z : ((⟨#[47]⟩ : ByteArray) ++ x.f0).size = 1 + x.f0.size := by rw [ByteArray.size_append]; rfl
      have W1 := Aside0.mk (fun (W : World) (h : Lib.IsBuilder 94 5 w.heap.size w.heap.size (Lib.byteCells (pathL (l.take i.toNat))) W) (hB : w.heap.size ≤ W.heap.size) => writeL w.heap.size (pathL (l.take i.toNat)) ((⟨#[47]⟩ : ByteArray) ++ x.f0) W h (by omega) hB)
      have q1 : (9223372036854775807 < 1 + (x.f0.size : Int)) = False := eq_false (by omega)
      have q1n : (9223372036854775807 < 1 + x.f0.size) = False := eq_false (by omega)
      have q1m : (9223372036854775807 < (⟨#[47]⟩ : ByteArray).size + x.f0.size) = False := eq_false (by rw [show (⟨#[47]⟩ : ByteArray).size = 1 from rfl]; omega)
      have q1d : decide (9223372036854775807 < 1 + x.f0.size) = false := decide_eq_false (by omega)
      obtain ⟨P1, hP1⟩ : ∃ P1, P1 = pathL (l.take i.toNat) ++ ((⟨#[47]⟩ : ByteArray) ++ x.f0).data.toList := ⟨_, rfl⟩
      have hP1l : P1.length = (pathL (l.take i.toNat)).length + (1 + x.f0.size) := by rw [hP1, List.length_append, data_length, s1z]
      rw [← hP1] at W1
      by_cases hun : 0 < x.f1.length
      ·have dun : decide ((0 : Int) < (x.f1.length : Int)) = true := decide_eq_true (by omega)
       have dunN : decide (0 < x.f1.length) = true := decide_eq_true hun
       have HSU := Aside0.mk (fun (W : World) (hT : QB.Tabs W) (hCW : Kd.C (Kd.int .u32) W A1 x.f1.length x.f1) => prop_ShowUnit.calls 1000000001 A1 c1 x.f1 (unitsB x.f1) W hT hCW HX.out.2.1 (units_eq 1000000001 x.f1 HX.out.2.2.1 HX.out.2.2.2 (by have := HX.out.2.2.2; omega)))
       rw [if_pos hun] at hstep
       have s2z : ((⟨#[64]⟩ : ByteArray) ++ unitsB x.f1).size = 1 + (unitsL x.f1).length := by rw [ByteArray.size_append]; simp [unitsB, ByteArray.size]
       have hub : (unitsB x.f1).size = (unitsL x.f1).length := by simp [unitsB, ByteArray.size]
       have q2 : (9223372036854775807 < 1 + ((unitsB x.f1).size : Int)) = False := eq_false (by omega)
       have q2n : (9223372036854775807 < 1 + (unitsB x.f1).size) = False := eq_false (by omega)
       have q2m : (9223372036854775807 < (⟨#[64]⟩ : ByteArray).size + (unitsB x.f1).size) = False := eq_false (by rw [show (⟨#[64]⟩ : ByteArray).size = 1 from rfl]; omega)
       have q2d : decide (9223372036854775807 < 1 + (unitsB x.f1).size) = false := decide_eq_false (by omega)
       have W2 := Aside0.mk (fun (W : World) (h : Lib.IsBuilder 94 5 w.heap.size w.heap.size (Lib.byteCells P1) W) (hB : w.heap.size ≤ W.heap.size) => writeL w.heap.size P1 ((⟨#[64]⟩ : ByteArray) ++ unitsB x.f1) W h (by omega) hB)
       obtain ⟨P2, hP2⟩ : ∃ P2, P2 = P1 ++ ((⟨#[64]⟩ : ByteArray) ++ unitsB x.f1).data.toList := ⟨_, rfl⟩
       have hP2l : P2.length = P1.length + (1 + (unitsL x.f1).length) := by rw [hP2, List.length_append, data_length, s2z]
       rw [← hP2] at W2
       by_cases har : x.f2.size = 0
       ·have da : x.f2.toList.isEmpty = true := List.isEmpty_iff.2 ((empty_iff x.f2).2 har)
        have HEQ := Aside0.mk (show P2 = pathL (l.take (i + 1).toNat) by
         rw [HTK.out, pathL_snoc, hP2, hP1]
         unfold stepB
         rw [if_pos hun, if_pos har]
         simp [unitsB, List.append_assoc])
        clear hi hpP hlen hstep hpl hP1 hP1l s1z har hun hs hP2 hP2l s2z hub
        go_wp2_with (first
         | (go_at_call 41; (with_reducible refine (prop_Named.calls 100 x.f0 _ _ HN.out).mono ?_); rintro e w1 ⟨rfl, hd⟩; have HBN := Aside0.mk (below_step HBY.out hd); have K6N := Aside0.mk (blk_below K6.out hd); have HWN := Aside0.mk (IsBuilder_below HWY.out hd); have k0n := (blk_cell K6N.out 0).trans rfl; have k1n := (blk_cell K6N.out 1).trans rfl; have k2n := (blk_cell K6N.out 2).trans rfl; clear hd)
         | (go_at_call 70; (with_reducible refine (HCT.out _).mono ?_); rintro e w1 ⟨rfl, rfl⟩)
         | (go_at_call 71; (with_reducible refine (W1.out _ HWN.out HBN.out.size).mono ?_); rintro e w2 ⟨rfl, hbw, hbb, hbk⟩; have HBp := Aside0.mk (HBN.out.trans hbb); have K6p := Aside0.mk (hbk g6 _ 49 _ HG.out (by decide) K6N.out); have HWp := Aside0.mk hbw; have k0p := (blk_cell K6p.out 0).trans rfl; have k1p := (blk_cell K6p.out 1).trans rfl; have k2p := (blk_cell K6p.out 2).trans rfl; clear hbw hbb hbk)
         | (go_at_call 72; (with_reducible refine (HSU.out _ (HT.out.below HBp.out) (Kd.C_below HX.out.1 HBp.out)).mono ?_); rintro e w9 ⟨rfl, hd⟩; have HBs := Aside0.mk (below_step HBp.out hd); have K6s := Aside0.mk (blk_below K6p.out hd); have HWs := Aside0.mk (IsBuilder_below HWp.out hd); have k0s := (blk_cell K6s.out 0).trans rfl; have k1s := (blk_cell K6s.out 1).trans rfl; have k2s := (blk_cell K6s.out 2).trans rfl; clear hd)
         | (go_at_call 71; (with_reducible refine (W2.out _ HWs.out HBs.out.size).mono ?_); rintro e w3 ⟨rfl, hbw, hbb, hbk⟩; have HBu := Aside0.mk (HBs.out.trans hbb); have K6u := Aside0.mk (hbk g6 _ 49 _ HG.out (by decide) K6s.out); have HWu := Aside0.mk hbw; have k0u := (blk_cell K6u.out 0).trans rfl; have k1u := (blk_cell K6u.out 1).trans rfl; have k2u := (blk_cell K6u.out 2).trans rfl; clear hbw hbb hbk))
        go_roundg k1
        case measure => omega
        case rel =>
         have hi := HI.out
         refine ⟨i + 1, rfl, ⟨by omega, by omega⟩, ⟨fun y hy => ?_⟩, ⟨?_⟩, HBu⟩
         ·rw [HTK.out] at hy
          rcases List.mem_append.1 hy with hy | hy
          ·exact HO.out y hy
          ·rw [List.mem_singleton.1 hy]; exact HOK.out
         ·rw [← HEQ.out]
          exact HWu.out
       ·rw [if_neg har] at hstep
        have s3z : ((⟨#[58]⟩ : ByteArray) ++ x.f2).size = 1 + x.f2.size := by rw [ByteArray.size_append]; rfl
        have q3 : (9223372036854775807 < 1 + (x.f2.size : Int)) = False := eq_false (by omega)
        have q3n : (9223372036854775807 < 1 + x.f2.size) = False := eq_false (by omega)
        have q3m : (9223372036854775807 < (⟨#[58]⟩ : ByteArray).size + x.f2.size) = False := eq_false (by rw [show (⟨#[58]⟩ : ByteArray).size = 1 from rfl]; omega)
        have q3d : decide (9223372036854775807 < 1 + x.f2.size) = false := decide_eq_false (by omega)
        have da : x.f2.toList.isEmpty = false := List.isEmpty_eq_false_iff.2 (fun h => har ((empty_iff x.f2).1 h))
        have W3 := Aside0.mk (fun (W : World) (h : Lib.IsBuilder 94 5 w.heap.size w.heap.size (Lib.byteCells P2) W) (hB : w.heap.size ≤ W.heap.size) => writeL w.heap.size P2 ((⟨#[58]⟩ : ByteArray) ++ x.f2) W h (by omega) hB)
        obtain ⟨P3, hP3⟩ : ∃ P3, P3 = P2 ++ ((⟨#[58]⟩ : ByteArray) ++ x.f2).data.toList := ⟨_, rfl⟩
        rw [← hP3] at W3
        have HEQ := Aside0.mk (show P3 = pathL (l.take (i + 1).toNat) by
         rw [HTK.out, pathL_snoc, hP3, hP2, hP1]
         unfold stepB
         rw [if_pos hun, if_neg har]
         simp [unitsB, List.append_assoc])
        clear hi hpP hlen hstep hpl hP1 hP1l s1z har hun hs hP2 hP2l s2z hub hP3 s3z
        go_wp2_with (first
         | (go_at_call 41; (with_reducible refine (prop_Named.calls 100 x.f0 _ _ HN.out).mono ?_); rintro e w1 ⟨rfl, hd⟩; have HBN := Aside0.mk (below_step HBY.out hd); have K6N := Aside0.mk (blk_below K6.out hd); have HWN := Aside0.mk (IsBuilder_below HWY.out hd); have k0n := (blk_cell K6N.out 0).trans rfl; have k1n := (blk_cell K6N.out 1).trans rfl; have k2n := (blk_cell K6N.out 2).trans rfl; clear hd)
         | (go_at_call 70; (with_reducible refine (HCT.out _).mono ?_); rintro e w1 ⟨rfl, rfl⟩)
         | (go_at_call 71; (with_reducible refine (W1.out _ HWN.out HBN.out.size).mono ?_); rintro e w2 ⟨rfl, hbw, hbb, hbk⟩; have HBp := Aside0.mk (HBN.out.trans hbb); have K6p := Aside0.mk (hbk g6 _ 49 _ HG.out (by decide) K6N.out); have HWp := Aside0.mk hbw; have k0p := (blk_cell K6p.out 0).trans rfl; have k1p := (blk_cell K6p.out 1).trans rfl; have k2p := (blk_cell K6p.out 2).trans rfl; clear hbw hbb hbk)
         | (go_at_call 72; (with_reducible refine (HSU.out _ (HT.out.below HBp.out) (Kd.C_below HX.out.1 HBp.out)).mono ?_); rintro e w9 ⟨rfl, hd⟩; have HBs := Aside0.mk (below_step HBp.out hd); have K6s := Aside0.mk (blk_below K6p.out hd); have HWs := Aside0.mk (IsBuilder_below HWp.out hd); have k0s := (blk_cell K6s.out 0).trans rfl; have k1s := (blk_cell K6s.out 1).trans rfl; have k2s := (blk_cell K6s.out 2).trans rfl; clear hd)
         | (go_at_call 71; (with_reducible refine (W2.out _ HWs.out HBs.out.size).mono ?_); rintro e w3 ⟨rfl, hbw, hbb, hbk⟩; have HBu := Aside0.mk (HBs.out.trans hbb); have K6u := Aside0.mk (hbk g6 _ 49 _ HG.out (by decide) K6s.out); have HWu := Aside0.mk hbw; have k0u := (blk_cell K6u.out 0).trans rfl; have k1u := (blk_cell K6u.out 1).trans rfl; have k2u := (blk_cell K6u.out 2).trans rfl; clear hbw hbb hbk)
         | (go_at_call 71; (with_reducible refine (W3.out _ HWu.out HBu.out.size).mono ?_); rintro e w4 ⟨rfl, hbw, hbb, hbk⟩; have HBa := Aside0.mk (HBu.out.trans hbb); have K6a := Aside0.mk (hbk g6 _ 49 _ HG.out (by decide) K6u.out); have HWa := Aside0.mk hbw; have k0a := (blk_cell K6a.out 0).trans rfl; have k1a := (blk_cell K6a.out 1).trans rfl; have k2a := (blk_cell K6a.out 2).trans rfl; clear hbw hbb hbk))
        go_roundg k1
        case measure => omega
        case rel =>
         have hi := HI.out
         refine ⟨i + 1, rfl, ⟨by omega, by omega⟩, ⟨fun y hy => ?_⟩, ⟨?_⟩, HBa⟩
         ·rw [HTK.out] at hy
          rcases List.mem_append.1 hy with hy | hy
          ·exact HO.out y hy
          ·rw [List.mem_singleton.1 hy]; exact HOK.out
         ·rw [← HEQ.out]
          exact HWa.out
      ·have dun : decide ((0 : Int) < (x.f1.length : Int)) = false := decide_eq_false (by omega)
       have dunN : decide (0 < x.f1.length) = false := decide_eq_false hun
       by_cases har : x.f2.size = 0
       ·rw [if_neg hun, if_pos har] at hstep
        have da : x.f2.toList.isEmpty = true := List.isEmpty_iff.2 ((empty_iff x.f2).2 har)
        have HEQ := Aside0.mk (show P1 = pathL (l.take (i + 1).toNat) by
         rw [HTK.out, pathL_snoc, hP1]
         unfold stepB
         rw [if_neg hun, if_pos har]
         simp [unitsB, List.append_assoc])
        clear hi hpP hlen hstep hpl hP1 hP1l s1z har hun hs
        go_wp2_with (first
         | (go_at_call 41; (with_reducible refine (prop_Named.calls 100 x.f0 _ _ HN.out).mono ?_); rintro e w1 ⟨rfl, hd⟩; have HBN := Aside0.mk (below_step HBY.out hd); have K6N := Aside0.mk (blk_below K6.out hd); have HWN := Aside0.mk (IsBuilder_below HWY.out hd); have k0n := (blk_cell K6N.out 0).trans rfl; have k1n := (blk_cell K6N.out 1).trans rfl; have k2n := (blk_cell K6N.out 2).trans rfl; clear hd)
         | (go_at_call 70; (with_reducible refine (HCT.out _).mono ?_); rintro e w1 ⟨rfl, rfl⟩)
         | (go_at_call 71; (with_reducible refine (W1.out _ HWN.out HBN.out.size).mono ?_); rintro e w2 ⟨rfl, hbw, hbb, hbk⟩; have HBp := Aside0.mk (HBN.out.trans hbb); have K6p := Aside0.mk (hbk g6 _ 49 _ HG.out (by decide) K6N.out); have HWp := Aside0.mk hbw; have k0p := (blk_cell K6p.out 0).trans rfl; have k1p := (blk_cell K6p.out 1).trans rfl; have k2p := (blk_cell K6p.out 2).trans rfl; clear hbw hbb hbk))
        go_roundg k1
        case measure => omega
        case rel =>
         have hi := HI.out
         refine ⟨i + 1, rfl, ⟨by omega, by omega⟩, ⟨fun y hy => ?_⟩, ⟨?_⟩, HBp⟩
         ·rw [HTK.out] at hy
          rcases List.mem_append.1 hy with hy | hy
          ·exact HO.out y hy
          ·rw [List.mem_singleton.1 hy]; exact HOK.out
         ·rw [← HEQ.out]
          exact HWp.out
       ·rw [if_neg hun, if_neg har] at hstep
        have s3z : ((⟨#[58]⟩ : ByteArray) ++ x.f2).size = 1 + x.f2.size := by rw [ByteArray.size_append]; rfl
        have q3 : (9223372036854775807 < 1 + (x.f2.size : Int)) = False := eq_false (by omega)
        have q3n : (9223372036854775807 < 1 + x.f2.size) = False := eq_false (by omega)
        have q3m : (9223372036854775807 < (⟨#[58]⟩ : ByteArray).size + x.f2.size) = False := eq_false (by rw [show (⟨#[58]⟩ : ByteArray).size = 1 from rfl]; omega)
        have q3d : decide (9223372036854775807 < 1 + x.f2.size) = false := decide_eq_false (by omega)
        have da : x.f2.toList.isEmpty = false := List.isEmpty_eq_false_iff.2 (fun h => har ((empty_iff x.f2).1 h))
        have W3 := Aside0.mk (fun (W : World) (h : Lib.IsBuilder 94 5 w.heap.size w.heap.size (Lib.byteCells P1) W) (hB : w.heap.size ≤ W.heap.size) => writeL w.heap.size P1 ((⟨#[58]⟩ : ByteArray) ++ x.f2) W h (by omega) hB)
        obtain ⟨P3, hP3⟩ : ∃ P3, P3 = P1 ++ ((⟨#[58]⟩ : ByteArray) ++ x.f2).data.toList := ⟨_, rfl⟩
        rw [← hP3] at W3
        have HEQ := Aside0.mk (show P3 = pathL (l.take (i + 1).toNat) by
         rw [HTK.out, pathL_snoc, hP3, hP1]
         unfold stepB
         rw [if_neg hun, if_neg har]
         simp [unitsB, List.append_assoc])
        clear hi hpP hlen hstep hpl hP1 hP1l s1z har hun hs hP3 s3z
        go_wp2_with (first
         | (go_at_call 41; (with_reducible refine (prop_Named.calls 100 x.f0 _ _ HN.out).mono ?_); rintro e w1 ⟨rfl, hd⟩; have HBN := Aside0.mk (below_step HBY.out hd); have K6N := Aside0.mk (blk_below K6.out hd); have HWN := Aside0.mk (IsBuilder_below HWY.out hd); have k0n := (blk_cell K6N.out 0).trans rfl; have k1n := (blk_cell K6N.out 1).trans rfl; have k2n := (blk_cell K6N.out 2).trans rfl; clear hd)
         | (go_at_call 70; (with_reducible refine (HCT.out _).mono ?_); rintro e w1 ⟨rfl, rfl⟩)
         | (go_at_call 71; (with_reducible refine (W1.out _ HWN.out HBN.out.size).mono ?_); rintro e w2 ⟨rfl, hbw, hbb, hbk⟩; have HBp := Aside0.mk (HBN.out.trans hbb); have K6p := Aside0.mk (hbk g6 _ 49 _ HG.out (by decide) K6N.out); have HWp := Aside0.mk hbw; have k0p := (blk_cell K6p.out 0).trans rfl; have k1p := (blk_cell K6p.out 1).trans rfl; have k2p := (blk_cell K6p.out 2).trans rfl; clear hbw hbb hbk)
         | (go_at_call 71; (with_reducible refine (W3.out _ HWp.out HBp.out.size).mono ?_); rintro e w4 ⟨rfl, hbw, hbb, hbk⟩; have HBa := Aside0.mk (HBp.out.trans hbb); have K6a := Aside0.mk (hbk g6 _ 49 _ HG.out (by decide) K6p.out); have HWa := Aside0.mk hbw; have k0a := (blk_cell K6a.out 0).trans rfl; have k1a := (blk_cell K6a.out 1).trans rfl; have k2a := (blk_cell K6a.out 2).trans rfl; clear hbw hbb hbk))
        go_roundg k1
        case measure => omega
        case rel =>
         have hi := HI.out
         refine ⟨i + 1, rfl, ⟨by omega, by omega⟩, ⟨fun y hy => ?_⟩, ⟨?_⟩, HBa⟩
         ·rw [HTK.out] at hy
          rcases List.mem_append.1 hy with hy | hy
          ·exact HO.out y hy
          ·rw [List.mem_singleton.1 hy]; exact HOK.out
         ·rw [← HEQ.out]
          exact HWa.out
   ·have hn2 := Bool.eq_false_iff.2 hn
    rw [hn2] at HN
    have HE := Aside0.mk (show R = (⟨#[]⟩, 1) by
     have hR := HR.out
     rw [if_neg (fun h => by
      have := List.all_eq_true.1 h x HXM.out
      rw [okP, hn2] at this
      simp at this)] at hR
     exact hR)
    clear hi HX HTK HPL HWY HC HT HU HP hpP hlen
    go_wp2_with (first
     | (go_at_call 41; (with_reducible refine (prop_Named.calls 100 x.f0 _ _ HN.out).mono ?_); rintro e w1 ⟨rfl, hd⟩; have HBN := Aside0.mk (below_step HBY.out hd); have K6N := Aside0.mk (blk_below K6.out hd); have k0n := (blk_cell K6N.out 0).trans rfl; have k1n := (blk_cell K6N.out 1).trans rfl; have k2n := (blk_cell K6N.out 2).trans rfl)
     | (go_at_call 70; (with_reducible refine (HCT.out _).mono ?_); rintro e w1 ⟨rfl, rfl⟩))
    go_ret2
    exact ⟨by rw [HE.out]; rfl, HBN.out⟩
end Go.Proofs.YtnalcjgefbelnaaDoor.Q
end
section
set_option linter.unusedSimpArgs false
set_option linter.unusedVariables false
namespace Go.Proofs.YtnalcjgefbelnaaDoor.Q
open Go.RowKit Go.Proofs.YtnalcjgefbelnaaDoorW.PrintWords Go.Proofs.YtnalcjgefbelnaaDoorW.PrintLast Go.Proofs.YtnalcjgefbelnaaDoorW.PrintMore
attribute [local go_sem] max2_int min2_int max_two min_two max_three min_three max_four min_four
theorem event_stepN {P : Program} {ops : Array Oper} {o : Oper} {a : Act} {Q : Exit → Act → World → Prop} {Kc : Act → World → Prop} {N : Option Tmp} {W w1 : World} {v : Value} (hw : Region.wanted o (yielded ops a.tmps) = true) (hN : o.dst = N) (hrun : (execOp a.eval o).run P W = .ok (.value v) w1) (h : Kc (a.put N v) w1) :
  if Region.wanted o (yielded ops a.tmps) = true then Oper.wp P o a W Kc Q else Kc (a.put N undef) W := by
 subst hN
 exact event_step hw hrun h
/-- The steps from a device up to the root. -/
def upF (t : List S44) : Nat → Int → List S49
 | 0, _ => []
 | k + 1, n => if 0 < n then (⟨(rd_T44 t n).f0, (rd_T44 t n).f1, ⟨#[]⟩⟩ : S49) :: upF t k (rd_T44 t n).f2 else []
def u32B (l : List Int) : Bool := l.all fun u => decide (0 ≤ u ∧ u < 4294967296)
def pathOk (l : List S49) : Bool := l.all (fun x => u32B x.f1) && decide ((pathL l).length ≤ 1000000000)
def tree_Path.f (l0 : List S44) (a1 : Int) : Option (ByteArray × Int) := (tree_check.f l0 a1).bind fun e => if e = 0 then (if pathOk (upF l0 a1.toNat a1).reverse = true then some (showP (upF l0 a1.toNat a1).reverse) else none) else some (⟨#[]⟩, e)
theorem upF_len (t : List S44) : ∀ (k : Nat) (n : Int), (upF t k n).length ≤ k
 | 0, n => Nat.le_refl 0
 | k + 1, n => by
  unfold upF
  split
  ·have := upF_len t k (rd_T44 t n).f2
   rw [List.length_cons]
   omega
  ·exact Nat.zero_le _
theorem form_up {t : List S44} (h : treeF t = true) (i : Int) (h0 : 0 < i) (hi : i < t.length) : 0 ≤ (rd_T44 t i).f2 ∧ (rd_T44 t i).f2 < i := by
 have h1 := form_node h i.toNat (by omega)
 unfold nodeOk at h1
 rw [show t.getD i.toNat z44 = rd_T44 t i from rfl, show ((i.toNat : Nat) : Int) = i by omega, beq_eq_false_iff_ne.2 (show i ≠ 0 by omega)] at h1
 unfold kidOk at h1
 simp only [Bool.and_eq_true, Bool.not_eq_true', decide_eq_false_iff_not, Bool.false_eq_true, if_false] at h1
 omega
theorem u32_of {x : List Int} (h : u32B x = true) : U32L x := fun u hu => by
 have := List.all_eq_true.1 h u hu
 exact of_decide_eq_true this
theorem seg_take (cur : List Value) (n k : Nat) (h : k < n) : seg (cur.take (n * 3)) 3 k = seg cur 3 k := by
 apply List.ext_getElem?
 intro t
 by_cases ht : t < 3
 ·rw [seg_get _ _ _ _ ht, seg_get _ _ _ _ ht, List.getElem?_take, if_pos (by omega)]
 ·have h1 : ∀ c : List Value, (seg c 3 k)[t]? = none := fun c => by unfold seg; rw [List.getElem?_take, if_neg ht]
  rw [h1, h1]
set_option maxHeartbeats 4000000 in
set_option maxRecDepth 100000 in
theorem reverse_nil (w : World) : Calls Tryd.prog 58 #[.slice none 0 0] w fun e w' => (∃ v, e = .returned v) ∧ w' = w := by
 have hu49 := Tryd.underlying49
 have hw0 : wrap64 ((0 : Int) - 1) = -1 := by unfold wrap64; omega
 have hw1 : wrap64 (-1) = -1 := by unfold wrap64; omega
 go_enter Tryd.func58, Tryd.ntmps58
 go_wp2
 go_loopg [2, 3] 0 (fun kq v2 v3 w' => v2 = .int .i64 0 ∧ v3 = .int .i64 (-1) ∧ w' = w)
 case atStart => exact ⟨rfl, by first | rfl | decide, rfl⟩
 case round =>
  obtain ⟨rfl, rfl, rfl⟩ := hrel
  have dl : decide ((0 : Int) < -1) = false := by decide
  go_wp2
  go_end0
  exact ⟨⟨_, rfl⟩, rfl⟩
/-- What is left in the row behind the turning. -/
theorem rev_C {w w2 : World} {g : Nat} {cur cur' : Array Value} {ss : List S49} {css : List (List Value)} (hl : css.length = ss.length) (hm : ss.length ≤ 1000)
  (hK : ∀ (j : Nat) x c, ss[j]? = some x → css[j]? = some c → k49.K w x c) (hseg : ∀ (k : Nat) c, css[k]? = some c → seg cur.toList 3 k = c)
  (hh : w2.heap[g]? = some (.cells cur' 49 (0, 0))) (hs : ∀ k, k < css.length → seg cur'.toList 3 k = seg cur.toList 3 (css.length - 1 - k)) (hb : Below w.heap.size w w2) :
  Kd.C k49 w2 (some ⟨g, 0, none⟩) css.length ss.reverse := by
 refine ⟨by rw [List.length_reverse, hl], by omega, fun hp => ⟨_, rfl, fun j p hj => ?_⟩⟩
 have hjl : j < ss.length := by
  have := (List.getElem?_eq_some_iff.1 hj).1
  rwa [List.length_reverse] at this
 have e1 : ss[css.length - 1 - j]? = some p := by
  rw [List.getElem?_reverse hjl] at hj
  rw [hl]
  exact hj
 obtain ⟨c, hc⟩ : ∃ c, css[css.length - 1 - j]? = some c := ⟨_, List.getElem?_eq_getElem (show css.length - 1 - j < css.length by omega)⟩
 have hk := hK _ _ _ e1 hc
 have hsg : seg cur'.toList 3 j = c := (hs j (by omega)).trans (hseg _ _ hc)
 refine ⟨c, k49.K_len hk, k49.K_below hb hk, fun i u hu => ?_⟩
 have hi : i < 3 := by
  have := (List.getElem?_eq_some_iff.1 hu).1
  rwa [k49.K_len hk] at this
 have := cell_seg hh hsg hi hu
 rw [add_plain]
 exact this
set_option maxHeartbeats 8000000 in
set_option maxRecDepth 100000 in
theorem tree_Path.calls (A0 : Option Addr) (c0 : Nat) (l0 : List S44) (a1 : Int) (r1 : ByteArray) (r2 : Int) (w : World) (ht : QB.Tabs w) (hr0 : Kd.C k44 w A0 l0.length l0) (hc0 : l0.length ≤ c0) (h : tree_Path.f l0 a1 = some (r1, r2)) :
  Calls Tryd.prog 23 #[.slice A0 l0.length c0, .int .i64 a1] w fun e w' => e = .returned (.tuple #[.string r1, .int .i64 r2]) ∧ Below w.heap.size w w' := by
 have hu44 := Tryd.underlying44
 have mixed : Tryd.prog.follows Departure.mixedOrders = true := by kernel_rfl
 unfold tree_Path.f at h
 obtain ⟨e0, A1, H⟩ := Option.bind_eq_some_iff.mp h
 clear h
 have HCK := Aside0.mk (tree_check.calls A0 c0 l0 a1 e0 w hr0 hc0 A1)
 by_cases he : e0 = 0
 ·subst he
  rw [if_pos rfl] at H
  have HIN := Aside0.mk (check_in A1)
  have HTF := Aside0.mk (check_form A1)
  have HLN := Aside0.mk (form_len (check_form A1))
  obtain ⟨S0, hS0⟩ : ∃ S0, S0 = upF l0 a1.toNat a1 := ⟨_, rfl⟩
  have hS1 : S0.length ≤ 32 := by
   have := upF_len l0 a1.toNat a1
   have := (check_in A1)
   have := form_len (check_form A1)
   rw [hS0]
   omega
  rw [← hS0] at H
  by_cases hp : pathOk S0.reverse = true
  ·rw [if_pos hp] at H
   have hq := H
   injection hq with hq
   unfold pathOk at hp
   rw [Bool.and_eq_true] at hp
   have HU := Aside0.mk (show ∀ x ∈ S0.reverse, U32L x.f1 from fun x hx => u32_of (List.all_eq_true.1 hp.1 x hx))
   have HPL := Aside0.mk (of_decide_eq_true hp.2)
   have HQ := Aside0.mk hq
   have HS := Aside0.mk hS0
   have HSL := Aside0.mk hS1
   have HC0 := Aside0.mk hr0
   have HT := Aside0.mk ht
   clear H hp hq hS0 hS1 hr0 ht A1 hc0
   have HSH := Aside0.mk (fun (A : Option Addr) (c n : Nat) (W : World) (hb : Below w.heap.size w W) (hn : S0.reverse.length = n) (hC : Kd.C k49 W A n S0.reverse) (hc : n ≤ c) => show Calls Tryd.prog 59 #[.slice A n c] W fun e w' => e = .returned (.tuple #[.string r1, .int .i64 r2]) ∧ Below W.heap.size W w' by
    have h1 := show_calls A c S0.reverse W (HT.out.below hb) (by rw [hn]; exact hC) (by rw [hn]; exact hc) HU.out (by rw [List.length_reverse]; have := HSL.out; omega) HPL.out
    rw [HQ.out, hn] at h1
    exact h1)
   go_enter Tryd.func23, Tryd.ntmps23
   go_wp2_with (first
    | (go_at_call 53; refine HCK.out.mono ?_; rintro e w1 ⟨rfl, hb⟩; have HB := Aside0.mk hb; clear hb))
   go_loopg [1, 7] a1.toNat (fun kq v1 v7 w' => ∃ (n : Int) (ss : List S49) (css : List (List Value)), v1 = .int .i64 n ∧ Aside0 (0 ≤ n ∧ n ≤ kq ∧ n < l0.length) ∧ Aside0 (css.length = ss.length ∧ (∀ (j : Nat) x c, ss[j]? = some x → css[j]? = some c → k49.K w x c)) ∧ Aside0 (ss ++ upF l0 kq n = S0) ∧ Aside0 (Kd.R (Kd.raw 3) 49 w' w.heap.size (fun _ => True) v7 css) ∧ Aside0 (Below w.heap.size w w'))
   case atStart => exact ⟨a1, [], [], rfl, ⟨by have := HIN.out; omega⟩, ⟨rfl, fun j x c hx => by simp at hx⟩, ⟨HS.out.symm⟩, ⟨Kd.R_nil _ _ _ _ _⟩, HB⟩
   case round =>
    rename World => wr
    obtain ⟨n, ss, css, rfl, HN, HK, HSS, HR, HB⟩ := hrel
    by_cases hlt : 0 < n
    ·have dl : decide (0 < n) = true := decide_eq_true hlt
     obtain ⟨kq, rfl⟩ : ∃ k, gk = k + 1 := ⟨gk - 1, by have := HN.out; omega⟩
     have hup := form_up HTF.out n hlt HN.out.2.2
     obtain ⟨ad, B1, b1, B3, b3, B4, b4, eA, hx0, hx1, hx2, hx3, hx4, hl1, hg1, hl3, hg3, hl4, hg4⟩ := at_T44 HC0.out n (by omega) HN.out.2.2
     cases eA
     replace hx0 := (HB.out.cell (World.block_lt_of_cell? w _ hx0)).trans hx0
     replace hx1 := (HB.out.cell (World.block_lt_of_cell? w _ hx1)).trans hx1
     have HX2 := Aside0.mk (fun (W : World) (hb : Below w.heap.size w W) => (hb.cell (World.block_lt_of_cell? w _ hx2)).trans hx2)
     have hss := HSS.out
     rw [upF, if_pos hlt] at hss
     have HK2 := Aside0.mk (k49_mk w (⟨(rd_T44 l0 n).f0, (rd_T44 l0 n).f1, ⟨#[]⟩⟩ : S49) hl1 hg1)
     have HS2 := Aside0.mk hss
     have HCL := Aside0.mk (show css.length ≤ 40 by
      have h1 := HSL.out
      rw [← hss, List.length_append] at h1
      have := HK.out.1
      omega)
     have HUP := Aside0.mk hup
     have p1 : (0 ≤ n) = True := eq_true (by omega)
     have p2 : (n < (l0.length : Int)) = True := eq_true HN.out.2.2
     have p3 : (n.toNat < l0.length) = True := eq_true (by have := HN.out; omega)
     generalize rd_T44 l0 n = x at *
     clear hss hup hx2 hx3 hx4 hl1 hg1 hl3 hg3 hl4 hg4 hlt
     go_wp2
     refine start_ (n := 15) (S := fun w' => w'.cell? (ad.add (n.toNat * 5)) = some (.string x.f0) ∧ w'.cell? ⟨(ad.add (n.toNat * 5)).block, (ad.add (n.toNat * 5)).off + 1, none⟩ = some (.slice B1 x.f1.length b1)) (ds := [13]) #[false, false, false, false, false, false, false, false, false, false, false, false, false, false, false] (by kernel_rfl) rfl rfl ⟨hx0, hx1⟩ (fun hHeld => ?_)
     refine pure_ (i := 0) (N := some 21) (v := ?_) (a' := ?_) #[true, false, false, false, false, false, false, false, false, false, false, false, false, false, false] rfl rfl (by kernel_rfl) (fun _ _ _ h => h) (Or.inl ⟨by rfl, ?_⟩) ?_ ?_
     rotate_left
     ·intro w'
      go_simp
      with_reducible rfl
     rotate_left
     ·simp only [Act.put, List.setIfInBounds_toArray, List.set_cons_zero, List.set_cons_succ]
      rfl
     refine pure_ (i := 1) (N := some 22) (v := ?_) (a' := ?_) #[true, true, false, false, false, false, false, false, false, false, false, false, false, false, false] rfl rfl (by kernel_rfl) (fun _ _ _ h => h) (Or.inl ⟨by rfl, ?_⟩) ?_ ?_
     rotate_left
     ·intro w'
      go_simp
      with_reducible rfl
     rotate_left
     ·simp only [Act.put, List.setIfInBounds_toArray, List.set_cons_zero, List.set_cons_succ]
      rfl
     refine pure_ (i := 2) (N := some 23) (v := ?_) (a' := ?_) #[true, true, true, false, false, false, false, false, false, false, false, false, false, false, false] rfl rfl (by kernel_rfl) (fun _ _ _ h => h) (Or.inl ⟨by rfl, ?_⟩) ?_ ?_
     rotate_left
     ·intro w'
      go_simp
      with_reducible rfl
     rotate_left
     ·simp only [Act.put, List.setIfInBounds_toArray, List.set_cons_zero, List.set_cons_succ]
      rfl
     refine pure_ (i := 3) (N := some 24) (v := ?_) (a' := ?_) #[true, true, true, true, false, false, false, false, false, false, false, false, false, false, false] rfl rfl (by kernel_rfl) (fun _ _ _ h => h) (Or.inl ⟨by rfl, ?_⟩) ?_ ?_
     rotate_left
     ·intro w'
      go_simp
      with_reducible rfl
     rotate_left
     ·simp only [Act.put, List.setIfInBounds_toArray, List.set_cons_zero, List.set_cons_succ]
      rfl
     refine pure_ (i := 4) (N := some 25) (v := ?_) (a' := ?_) #[true, true, true, true, true, false, false, false, false, false, false, false, false, false, false] rfl rfl (by kernel_rfl) (fun _ _ _ h => h) (Or.inl ⟨by rfl, ?_⟩) ?_ ?_
     rotate_left
     ·intro w'
      go_simp
      with_reducible rfl
     rotate_left
     ·simp only [Act.put, List.setIfInBounds_toArray, List.set_cons_zero, List.set_cons_succ]
      rfl
     refine pure_ (i := 6) (N := some 27) (v := ?_) (a' := ?_) #[true, true, true, true, true, false, true, false, false, false, false, false, false, false, false] rfl rfl (by kernel_rfl) (fun _ _ _ h => h) (Or.inl ⟨by rfl, ?_⟩) ?_ ?_
     rotate_left
     ·intro w'
      go_simp
      with_reducible rfl
     rotate_left
     ·simp only [Act.put, List.setIfInBounds_toArray, List.set_cons_zero, List.set_cons_succ]
      rfl
     refine pure_ (i := 7) (N := some 28) (v := ?_) (a' := ?_) #[true, true, true, true, true, false, true, true, false, false, false, false, false, false, false] rfl rfl (by kernel_rfl) (fun _ _ _ h => h) (Or.inl ⟨by rfl, ?_⟩) ?_ ?_
     rotate_left
     ·intro w'
      go_simp
      with_reducible rfl
     rotate_left
     ·simp only [Act.put, List.setIfInBounds_toArray, List.set_cons_zero, List.set_cons_succ]
      rfl
     refine pure_ (i := 8) (N := some 29) (v := ?_) (a' := ?_) #[true, true, true, true, true, false, true, true, true, false, false, false, false, false, false] rfl rfl (by kernel_rfl) (fun _ _ _ h => h) (Or.inl ⟨by rfl, ?_⟩) ?_ ?_
     rotate_left
     ·intro w'
      go_simp
      with_reducible rfl
     rotate_left
     ·simp only [Act.put, List.setIfInBounds_toArray, List.set_cons_zero, List.set_cons_succ]
      rfl
     refine pure_ (i := 9) (N := some 30) (v := ?_) (a' := ?_) #[true, true, true, true, true, false, true, true, true, true, false, false, false, false, false] rfl rfl (by kernel_rfl) (fun _ _ _ h => h) (Or.inl ⟨by rfl, ?_⟩) ?_ ?_
     rotate_left
     ·intro w'
      go_simp
      with_reducible rfl
     rotate_left
     ·simp only [Act.put, List.setIfInBounds_toArray, List.set_cons_zero, List.set_cons_succ]
      rfl
     refine take_ (i := 5) (N := some 26) (v := (.string x.f0)) (a' := ?_) #[true, true, true, true, true, true, true, true, true, true, false, false, false, false, false] rfl rfl (by kernel_rfl) (fun _ _ _ h => h) (Or.inl ⟨by rfl, ?_⟩) hHeld ?_ ?_
     rotate_left
     rotate_left
     ·simp only [Act.put, List.setIfInBounds_toArray, List.set_cons_zero, List.set_cons_succ]
      rfl
     rotate_left
     ·rintro w' ⟨s0, s1⟩
      go_simp
     refine take_ (i := 10) (N := some 31) (v := (.slice B1 x.f1.length b1)) (a' := ?_) #[true, true, true, true, true, true, true, true, true, true, true, false, false, false, false] rfl rfl (by kernel_rfl) (fun _ _ _ h => h) (Or.inl ⟨by rfl, ?_⟩) hHeld ?_ ?_
     rotate_left
     rotate_left
     ·simp only [Act.put, List.setIfInBounds_toArray, List.set_cons_zero, List.set_cons_succ]
      rfl
     rotate_left
     ·rintro w' ⟨s0, s1⟩
      go_simp
     refine pure_ (i := 11) (N := some 32) (v := ?_) (a' := ?_) #[true, true, true, true, true, true, true, true, true, true, true, true, false, false, false] rfl rfl (by kernel_rfl) (fun _ _ _ h => h) (Or.inl ⟨by rfl, ?_⟩) ?_ ?_
     rotate_left
     ·intro w'
      go_simp
      with_reducible rfl
     rotate_left
     ·simp only [Act.put, List.setIfInBounds_toArray, List.set_cons_zero, List.set_cons_succ]
      rfl
     obtain ⟨X, hX⟩ : ∃ X, X = wr.drew := ⟨_, rfl⟩
     have HRX := Aside0.mk (show Kd.R (Kd.raw 3) 49 X w.heap.size (fun _ => True) _ css by rw [hX]; exact Kd.R_drew HR.out)
     have HBX := Aside0.mk (show Below w.heap.size w X by rw [hX]; exact below_drew1 HB.out)
     rw [← hX] at hHeld ⊢
     clear hX
     refine one_ (i := 12) (N := some 33) #[true, true, true, true, true, true, true, true, true, true, true, true, true, false, false] rfl rfl (by kernel_rfl) (by decide) (fun K hK => ?_)
     refine event_stepN (by rfl) rfl (v := .slice (some ⟨X.heap.size, 0, none⟩) 1 1) (w1 := X.alloc (.cells #[.string x.f0, .slice B1 x.f1.length b1, .string ⟨#[]⟩] 49)) (by first | (go_simp; done) | (go_simp; rfl)) (hK.out _ _ ⟨((below_alloc (Below.refl X.heap.size X) _).cell (World.block_lt_of_cell? _ _ hHeld.1)).trans hHeld.1, ((below_alloc (Below.refl X.heap.size X) _).cell (World.block_lt_of_cell? _ _ hHeld.2)).trans hHeld.2⟩ (fun hHeld => ?_))
     clear hK K
     simp only [Act.put, List.setIfInBounds_toArray, List.set_cons_zero, List.set_cons_succ]
     refine last_ (i := 13) (N := some 34) #[true, true, true, true, true, true, true, true, true, true, true, true, true, true, false] rfl rfl (by kernel_rfl) (by decide) (fun K hK => ?_)
     refine Kd.R_append_step (Kd.raw 3) (w0 := w) w.heap.size (by rfl) (.tmp 21) (.tmp 33) 36 49 (.agg #[(.string ⟨#[]⟩), (.slice none 0 0), (.string ⟨#[]⟩)]) 56 rfl Tryd.underlying36 info49 rfl (by decide) (by decide) _ css [.string x.f0, .slice B1 x.f1.length b1, .string ⟨#[]⟩] [.string x.f0, .slice B1 x.f1.length b1, .string ⟨#[]⟩] (fun _ => True) (fun _ => False) rfl rfl ⟨rfl, rfl, by intro u hu; simp at hu; rcases hu with rfl | rfl | rfl <;> rfl⟩ (fun _ h => h.elim) (fun _ _ => trivial) HRX.out HBX.out HBX.out.size (by have := HCL.out; omega) ?_
     intro v1 w1 ho hb hg hat
     refine hK.out _ _ ?_
     have HR2 := Aside0.mk ho
     have HB2 := Aside0.mk hb
     clear hK K ho hb hg hat hHeld hx0 hx1
     simp only [Act.put, List.getElem_toArray, List.getElem_cons_succ, List.getElem_cons_zero, List.setIfInBounds_toArray, List.set_cons_zero, List.set_cons_succ]
     refine pure_ (i := 14) (N := some 7) (v := ?_) (a' := ?_) #[true, true, true, true, true, true, true, true, true, true, true, true, true, true, true] rfl rfl (by kernel_rfl) (fun _ _ _ h => h) (Or.inl ⟨by rfl, ?_⟩) ?_ ?_
     rotate_left
     ·intro w'
      go_simp
      with_reducible rfl
     rotate_left
     ·simp only [Act.put, List.setIfInBounds_toArray, List.set_cons_zero, List.set_cons_succ]
      rfl
     refine done_ (n := 0) (by kernel_rfl) ?_
     have hx2 := HX2.out _ HB2.out
     go_wp2
     go_roundg kq
     case measure => omega
     case rel =>
      refine ⟨x.f2, ss ++ [(⟨x.f0, x.f1, ⟨#[]⟩⟩ : S49)], css ++ [[.string x.f0, .slice B1 x.f1.length b1, .string ⟨#[]⟩]], rfl, ⟨by have h1 := HUP.out; have h2 := HN.out; omega⟩, ⟨by rw [List.length_append, List.length_append, HK.out.1]; rfl, fun j y c hy hc => ?_⟩, ⟨by rw [List.append_assoc]; exact HS2.out⟩, HR2, HB2⟩
      by_cases hj : j < ss.length
      ·rw [List.getElem?_append_left hj] at hy
       rw [List.getElem?_append_left (by rw [HK.out.1]; exact hj)] at hc
       exact HK.out.2 j y c hy hc
      ·rw [List.getElem?_append_right (by omega)] at hy
       rw [List.getElem?_append_right (by rw [HK.out.1]; omega), HK.out.1] at hc
       have hz : j - ss.length = 0 := by
        have := (List.getElem?_eq_some_iff.1 hy).1
        rw [List.length_singleton] at this
        omega
       rw [hz] at hy hc
       obtain rfl := Option.some.inj hy
       obtain rfl := Option.some.inj hc
       exact HK2.out
    ·have dl : decide (0 < n) = false := decide_eq_false hlt
     have hss := HSS.out
     rw [show upF l0 gk n = [] by cases gk with | zero => rfl | succ k => (rw [upF, if_neg hlt]), List.append_nil] at hss
     subst hss
     clear hlt
     obtain ⟨hok, inner, ⟨hlen, ho⟩, hr⟩ := HR.out
     rcases ho with ⟨hv, hz⟩ | ⟨g, cap, cur, hv, hbg, hh, hic, hcm, hcs, htk⟩
     ·subst hv
      have hz' : ss = [] := List.eq_nil_of_length_eq_zero (by rw [← HK.out.1]; exact hz)
      subst hz'
      clear hok hlen hr hz
      go_wp2_with (first
       | (go_at_call 58; refine (reverse_nil _).mono ?_; rintro e w2 ⟨⟨v, rfl⟩, rfl⟩)
       | (go_at_call 59; refine (HSH.out none 0 0 _ HB.out rfl ⟨rfl, by omega, fun hp => absurd hp (Nat.lt_irrefl 0)⟩ (Nat.le_refl 0)).mono ?_; rintro e w3 ⟨rfl, hb⟩; have HB3 := Aside0.mk (below_step HB.out hb); clear hb))
      go_ret2
      exact ⟨rfl, HB3.out⟩
     ·subst hv
      have hseg : ∀ (k : Nat) c, css[k]? = some c → seg cur.toList 3 k = c := fun k c hk => by
       have h1 := (hr.2 k c hk).1
       have h2 : k < css.length := (List.getElem?_eq_some_iff.1 hk).1
       rw [← htk] at h1
       have h3 := seg_take cur.toList css.length k h2
       exact h3.symm.trans h1
      have hshape : ∀ k, k < css.length → ∃ s A m c t, seg cur.toList 3 k = [.string s, .slice A m c, .string t] := fun k hk => by
       obtain ⟨x, hx⟩ : ∃ x, ss[k]? = some x := ⟨_, List.getElem?_eq_getElem (show k < ss.length by rw [← HK.out.1]; exact hk)⟩
       obtain ⟨c, hc⟩ : ∃ c, css[k]? = some c := ⟨_, List.getElem?_eq_getElem hk⟩
       obtain ⟨A', c', e', -, -⟩ := k49_open (HK.out.2 k x c hx hc)
       exact ⟨_, _, _, _, _, (hseg k c hc).trans e'⟩
      have HRV := Aside0.mk (reverse_calls g css.length cap cur wr hh hcs hic (by have := HSL.out; have := HK.out.1; omega) hshape)
      have HSG := Aside0.mk hseg
      have HIC := Aside0.mk hic
      have HBG := Aside0.mk hbg
      clear hok hlen hr hseg hshape hh hic hcm hcs htk hbg
      go_wp2_with (first
       | (go_at_call 58; refine HRV.out.mono ?_; rintro e w2 ⟨⟨v, rfl⟩, cur', hh2, hsz, hsg, hgr⟩; have HB2 := Aside0.mk (HB.out.grown hgr HB.out.size (fun k' hk' => by injection hk' with hk'; have := HBG.out; omega)); have HC2 := Aside0.mk (rev_C HK.out.1 (by have := HSL.out; omega) HK.out.2 HSG.out hh2 hsg HB2.out); clear hh2 hsz hsg hgr)
       | (go_at_call 59; refine (HSH.out (some ⟨g, 0, none⟩) cap css.length _ HB2.out (by rw [List.length_reverse, HK.out.1]) HC2.out HIC.out).mono ?_; rintro e w3 ⟨rfl, hb⟩; have HB3 := Aside0.mk (below_step HB2.out hb); clear hb))
      go_ret2
      exact ⟨rfl, HB3.out⟩
  ·rw [if_neg hp] at H
   cases H
 ·rw [if_neg he] at H
  simp only [Option.some.injEq, Prod.mk.injEq] at H
  obtain ⟨rfl, rfl⟩ := H
  have heb : (e0 == 0) = false := beq_eq_false_iff_ne.2 he
  have heb2 : (e0 != 0) = true := bne_iff_ne.2 he
  clear hr0 hc0 A1 he
  go_enter Tryd.func23, Tryd.ntmps23
  go_wp2_with (first
   | (go_at_call 53; refine HCK.out.mono ?_; rintro e w1 ⟨rfl, hb⟩; have HB := Aside0.mk hb; clear hb))
  go_ret2
  exact ⟨rfl, HB.out⟩
end Go.Proofs.YtnalcjgefbelnaaDoor.Q
end
