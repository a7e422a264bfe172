/- Contracts of Go functions and plain facts, of several texts, one behind the other; no condition. -/
import Derived.Test.YtnalcjgefbelnaaDoorMTreeFinds5
import Derived.Test.YtnalcjgefbelnaaDoorMTreeFinds6
import Derived.Test.YtnalcjgefbelnaaDoorMTreeFinds7
import Derived.Test.YtnalcjgefbelnaaDoorMTreeFinds3
import Derived.Test.YtnalcjgefbelnaaDoorMTreeFinds2
import Derived.Deep.QuietTactic
import Derived.BigQuiet
import Derived.Laws.Cover1
import Derived.Test.YtnalcjgefbelnaaDoorMTreeFinds4
import Derived.ChangeArms
import Derived.OpenShut
import Derived.SizedLaws
section
set_option linter.unusedSimpArgs false
set_option linter.unusedVariables false
namespace Go.Proofs.YtnalcjgefbelnaaDoor.Q
open Go.RowKit Go.Proofs.YtnalcjgefbelnaaDoorW.PrintWords Go.Proofs.YtnalcjgefbelnaaDoorW.PrintLast
def numsB (l : List UInt8) : List Int := l.map fun b => (b.toNat : Int)
theorem numsB_app (a b : List UInt8) : numsB (a ++ b) = numsB a ++ numsB b := by unfold numsB; rw [List.map_append]
theorem bytesOf_numsB (s : ByteArray) : bytesOf s = numsB s.data.toList := rfl
/-- How much steps weigh. -/
def wt81 (x : S49) : Nat := x.f0.size + ((x.f1.map fun _ => 0 + 1).sum + x.f2.size)
def wtL (l : List S49) : Nat := (l.map fun x => wt81 x + 1).sum
theorem sum_ones (l : List Int) : (l.map fun _ => 0 + 1).sum = l.length := by
 induction l with
 | nil => rfl
 | cons a l ih => rw [List.map_cons, List.sum_cons, ih, List.length_cons]; omega
theorem wt_mem (l : List S49) : ∀ x ∈ l, wt81 x + 1 ≤ wtL l := by
 induction l with
 | nil => intro x h; cases h
 | cons a l ih =>
  intro x h
  unfold wtL at ih ⊢
  rw [List.map_cons, List.sum_cons]
  rcases List.mem_cons.1 h with rfl | h
  ·omega
  ·have := ih x h; omega
theorem wt_len (l : List S49) : l.length ≤ wtL l := by
 induction l with
 | nil => exact Nat.zero_le _
 | cons a l ih =>
  unfold wtL at ih ⊢
  rw [List.map_cons, List.sum_cons, List.length_cons]
  omega
theorem stepB_len (x : S49) (hu : U32L x.f1) : (stepB x).length ≤ 40 * (wt81 x + 1) := by
 have h1 := units_len x.f1 hu x.f1.length (Nat.le_refl _)
 rw [List.take_length] at h1
 have h2 : wt81 x = x.f0.size + (x.f1.length + x.f2.size) := by unfold wt81; rw [sum_ones]
 unfold stepB
 rw [h2, List.length_append, List.length_append, List.length_cons, data_length]
 have a1 : (if 0 < x.f1.length then 64 :: unitsL x.f1 else []).length ≤ 1 + 33 * x.f1.length := by
  split
  ·rw [List.length_cons]; omega
  ·simp
 have a2 : (if x.f2.size = 0 then [] else 58 :: x.f2.data.toList).length ≤ 1 + x.f2.size := by
  split
  ·simp
  ·rw [List.length_cons, data_length]; omega
 omega
theorem pathL_len (l : List S49) (hu : ∀ x ∈ l, U32L x.f1) : (pathL l).length ≤ 40 * wtL l := by
 induction l with
 | nil => simp [pathL]
 | cons a l ih =>
  have h1 := stepB_len a (hu a (by simp))
  have h2 := ih (fun x hx => hu x (by simp [hx]))
  unfold pathL at h2 ⊢
  unfold wtL at h2 ⊢
  rw [List.map_cons, List.flatten_cons, List.length_append, List.map_cons, List.sum_cons]
  omega
theorem okP_bad (x : S49) (h : okP x = false) (l : List S49) (hx : x ∈ l) : l.all okP = false := by
 rw [Bool.eq_false_iff]
 intro h2
 rw [List.all_eq_true.1 h2 x hx] at h
 cases h
theorem rd_mem (l : List S49) (i : Nat) (h : i < l.length) : rd_T49 l (i : Int) = l[i] := by
 rw [rd_T49_get l (i : Int) (by omega) (by omega)]
 rfl
theorem show_go1 (l : List S49) (hu : ∀ x ∈ l, U32L x.f1) (ho : ∀ x ∈ l, okP x = true) (hp : (pathL l).length ≤ 1000000000) (hl : l.length ≤ 1000000000) : ∀ (d k i : Nat), i + d = l.length → d + 100 ≤ k →
  tinderref07_Show.l1 k l (numsB (pathL (l.take i))) (i : Int) = some (if l.length = 0 then (⟨#[47]⟩, 0) else if 256 < (pathL l).length then (⟨#[]⟩, 3) else (⟨(pathL l).toArray⟩, 0))
 | 0, k, i, hi, hk => by
  obtain ⟨k, rfl⟩ : ∃ m, k = m + 1 := ⟨k - 1, by omega⟩
  unfold tinderref07_Show.l1
  rw [if_neg (by omega), List.take_of_length_le (by omega)]
  have e : (numsB (pathL l)).length = (pathL l).length := by unfold numsB; rw [List.length_map]
  have e2 : strOfNums (numsB (pathL l)) = ⟨(pathL l).toArray⟩ := strOf_bytes _
  rw [e, e2]
  by_cases h0 : l.length = 0
  ·rw [if_pos (by omega), if_pos h0]
  ·rw [if_neg (by omega), if_neg h0]
   by_cases h6 : 256 < (pathL l).length
   ·rw [if_pos (by omega), if_pos h6]
   ·rw [if_neg (by omega), if_neg h6]
 | d + 1, k, i, hi, hk => by
  obtain ⟨k, rfl⟩ : ∃ m, k = m + 1 := ⟨k - 1, by omega⟩
  have hm : l[i] ∈ l := List.getElem_mem _
  have hux := hu _ hm
  have hox := ho _ hm
  have htk := take_succ' l i (by omega)
  have hpl := pathL_take l (i + 1)
  have ih := show_go1 l hu ho hp hl d k (i + 1) (by omega) (by omega)
  rw [htk, pathL_snoc] at hpl ih
  rw [List.length_append] at hpl
  rw [numsB_app] at ih
  have e1 : wrap64 ((i : Int) + 1) = ((i + 1 : Nat) : Int) := by unfold wrap64; omega
  unfold tinderref07_Show.l1
  rw [if_pos (by omega), if_pos (by omega), rd_mem l i (by omega), e1]
  generalize l[i] = x at *
  have h4 : x.f1.length ≤ 4 := by
   unfold okP at hox
   simp only [Bool.and_eq_true, decide_eq_true_eq] at hox
   exact hox.1.2
  have hsl : (stepB x).length = 1 + x.f0.size + (if 0 < x.f1.length then 1 + (unitsL x.f1).length else 0) + (if x.f2.size = 0 then 0 else 1 + x.f2.size) := by
   unfold stepB
   rw [List.length_append, List.length_append, List.length_cons, data_length]
   have a1 : (if 0 < x.f1.length then 64 :: unitsL x.f1 else []).length = if 0 < x.f1.length then 1 + (unitsL x.f1).length else 0 := by
    split
    ·rw [List.length_cons]; omega
    ·rfl
   have a2 : (if x.f2.size = 0 then [] else 58 :: x.f2.data.toList).length = if x.f2.size = 0 then 0 else 1 + x.f2.size := by
    split
    ·rfl
    ·rw [List.length_cons, data_length]; omega
   rw [a1, a2]
   omega
  have hNl : (numsB (pathL (l.take i))).length = (pathL (l.take i)).length := by unfold numsB; rw [List.length_map]
  have hstep : numsB (stepB x) = [47] ++ bytesOf x.f0 ++ (if 0 < x.f1.length then [64] ++ bytesOf (unitsB x.f1) else []) ++ (if x.f2.size = 0 then [] else [58] ++ bytesOf x.f2) := by
   unfold stepB
   rw [numsB_app, numsB_app, bytesOf_numsB, bytesOf_numsB, bytesOf_numsB]
   congr 1
   ·congr 1
    split
    ·rfl
    ·rfl
   ·split
    ·rfl
    ·rfl
  have hUs : (unitsB x.f1).size = (unitsL x.f1).length := by simp [unitsB, ByteArray.size]
  have hesc : (x.f2.toList = ([] : List UInt8)) ↔ x.f2.size = 0 := empty_iff x.f2
  rw [hstep] at ih
  obtain ⟨N, hN⟩ : ∃ N, N = numsB (pathL (l.take i)) := ⟨_, rfl⟩
  rw [← hN] at ih hNl ⊢
  rw [if_pos (by omega), Option.bind_some, if_pos (by rw [List.length_append, List.length_singleton]; omega), Option.bind_some]
  by_cases hun : 0 < x.f1.length
  ·rw [if_pos hun] at hsl ih
   rw [if_pos (by omega), if_pos (by rw [List.length_append, List.length_append, bytesOf_length, List.length_singleton]; omega), Option.bind_some, refunits_eq k x.f1 hux (by omega) (by omega), Option.bind_some, if_pos (by rw [List.length_append, List.length_append, List.length_append, bytesOf_length, List.length_singleton, List.length_singleton, hUs]; omega), Option.bind_some]
   by_cases har : x.f2.size = 0
   ·rw [if_pos har] at ih
    rw [if_pos (hesc.2 har)]
    simpa [List.append_assoc] using ih
   ·rw [if_neg har] at ih hsl
    rw [if_neg (fun h => har (hesc.1 h)), if_pos (by simp only [List.length_append, bytesOf_length, List.length_singleton, hUs]; omega), Option.bind_some, if_pos (by simp only [List.length_append, bytesOf_length, List.length_singleton, hUs]; omega)]
    simpa [List.append_assoc] using ih
  ·rw [if_neg hun] at hsl ih
   rw [if_neg (by omega)]
   by_cases har : x.f2.size = 0
   ·rw [if_pos har] at ih
    rw [if_pos (hesc.2 har)]
    simpa [List.append_assoc] using ih
   ·rw [if_neg har] at ih hsl
    rw [if_neg (fun h => har (hesc.1 h)), if_pos (by simp only [List.length_append, bytesOf_length, List.length_singleton]; omega), Option.bind_some, if_pos (by simp only [List.length_append, bytesOf_length, List.length_singleton]; omega)]
    simpa [List.append_assoc] using ih
theorem show_go0 (l : List S49) (hu : ∀ x ∈ l, U32L x.f1) (hp : (pathL l).length ≤ 1000000000) (hl : l.length ≤ 1000000000) (hw : ∀ x ∈ l, x.f2.size ≤ 1000000000) : ∀ (d k i : Nat), i + d = l.length → d + 2000000000 + 1000 ≤ k → (∀ x ∈ l.take i, okP x = true) →
  tinderref07_Show.l0 k l (i : Int) = some (showP l)
 | 0, k, i, hi, hk, ho => by
  obtain ⟨k, rfl⟩ : ∃ m, k = m + 1 := ⟨k - 1, by omega⟩
  unfold tinderref07_Show.l0
  rw [List.take_of_length_le (by omega)] at ho
  rw [if_neg (by omega)]
  have h := show_go1 l hu ho hp hl l.length k 0 (by omega) (by omega)
  rw [List.take_zero] at h
  rw [show (numsB (pathL [])) = ([] : List Int) from rfl] at h
  unfold showP
  rw [if_pos (List.all_eq_true.2 ho)]
  exact h
 | d + 1, k, i, hi, hk, ho => by
  obtain ⟨k, rfl⟩ : ∃ m, k = m + 1 := ⟨k - 1, by omega⟩
  have hm : l[i] ∈ l := List.getElem_mem _
  have htk := take_succ' l i (by omega)
  have hne : ¬ l.length = 0 := by omega
  have e1 : wrap64 ((i : Int) + 1) = ((i + 1 : Nat) : Int) := by unfold wrap64; omega
  have hf2 := hw _ hm
  have hpe := place_eq k l[i].f2 47 0 (by omega) (by omega) (by omega)
  rw [Nat.zero_add, List.drop_zero] at hpe
  have hix := index_next 47 l[i].f2.data.toList
  rw [bytes_len] at hix
  have hnl := nextB_le 47 l[i].f2.data.toList
  rw [bytes_len] at hnl
  unfold tinderref07_Show.l0
  rw [if_pos (by omega), if_pos (by omega), rd_mem l i (by omega), refnamed_eq k (by omega), Option.bind_some]
  have hbad : okP l[i] = false → showP l = (⟨#[]⟩, 1) := fun h => by
   unfold showP
   rw [if_neg hne, if_neg (by rw [okP_bad _ h l hm]; decide)]
  by_cases hn : namedF l[i].f0 = true
  ·rw [if_pos hn]
   by_cases hu4 : 4 < l[i].f1.length
   ·rw [if_pos (by omega), hbad (by unfold okP; rw [decide_eq_false (show ¬ l[i].f1.length ≤ 4 by omega)]; simp)]
   ·have hpe2 : tinderref07_Place.f k l[i].f2 0 47 = some ((nextB 47 l[i].f2.data.toList : Nat) : Int) := hpe
    rw [if_neg (by omega), hpe2, Option.bind_some]
    by_cases hs : nextB 47 l[i].f2.data.toList < l[i].f2.size
    ·rw [if_pos hs] at hix
     rw [if_pos (by omega), hbad (by unfold okP; rw [hix, decide_eq_true (by omega)]; simp)]
    ·rw [if_neg hs] at hix
     rw [if_neg (by omega), e1]
     refine show_go0 l hu hp hl hw d k (i + 1) (by omega) (by omega) (fun x hx => ?_)
     rw [htk] at hx
     rcases List.mem_append.1 hx with hx | hx
     ·exact ho x hx
     ·rw [List.mem_singleton.1 hx]
      unfold okP
      rw [hn, hix, decide_eq_true (show l[i].f1.length ≤ 4 by omega)]
      rfl
  ·rw [if_neg hn, hbad (by unfold okP; rw [Bool.eq_false_iff.2 hn]; simp)]
theorem refShow_ge (k : Nat) (hk : 4000000000 ≤ k) (l : List S49) (hu : ∀ x ∈ l, U32L x.f1) (hw : wtL l ≤ 1048576) : tinderref07_Show.f k l = some (showP l) := by
 have h1 := pathL_len l hu
 have h2 := wt_len l
 refine show_go0 l hu (by omega) (by omega) (fun x hx => ?_) l.length k 0 (by omega) (by omega) (fun x hx => by simp at hx)
 have := wt_mem l x hx
 unfold wt81 at this
 omega
end Go.Proofs.YtnalcjgefbelnaaDoor.Q
end
section
set_option linter.unusedSimpArgs false
set_option linter.unusedVariables false
namespace Go.Proofs.YtnalcjgefbelnaaDoor.Q
open Go.RowKit Go.Proofs.YtnalcjgefbelnaaDoorW.PrintWords Go.Proofs.YtnalcjgefbelnaaDoorW.PrintLast
def PropG (p : S53) : Prop := p.f0.size ≤ 140737488351232 ∧ (p.f1.length * 1 ≤ 140737488351232 ∧ ∀ b ∈ p.f1, (Lit.int .u8 b).wf = true)
def NodeG (a : S44) : Prop := a.f0.size ≤ 140737488351232 ∧ (a.f1.length * 4 ≤ 140737488351232 ∧ ∀ b ∈ a.f1, (Lit.int .u32 b).wf = true) ∧ (Lit.int .i64 a.f2).wf = true ∧ (a.f3.length * 40 ≤ 140737488351232 ∧ ∀ b ∈ a.f3, PropG b) ∧ (a.f4.length * 4 ≤ 140737488351232 ∧ ∀ b ∈ a.f4, (Lit.int .u32 b).wf = true)
def TreeG (z : List S44) : Prop := z.length * 96 ≤ 140737488351232 ∧ ∀ a ∈ z, NodeG a
def CaseG (z : S30) : Prop := TreeG z.f0 ∧ (Lit.int .i64 z.f1).wf = true ∧ z.f2.size ≤ 140737488351232 ∧ (z.f3.length * 1 ≤ 140737488351232 ∧ ∀ b ∈ z.f3, (Lit.int .u8 b).wf = true)
def UnitG (l : List Int) : Prop := l.length * 4 ≤ 140737488351232 ∧ ∀ b ∈ l, (Lit.int .u32 b).wf = true
theorem good_of {z : List S44} (h : TreeG z) : GoodT z := by
 refine ⟨by have := h.1; omega, fun x hx => ?_⟩
 obtain ⟨-, h1, -, h3, h4⟩ := h.2 x hx
 refine ⟨by have := h1.1; omega, by have := h4.1; omega, by have := h3.1; omega, fun p hp => ?_⟩
 have := (h3.2 p hp).2.1
 omega
end Go.Proofs.YtnalcjgefbelnaaDoor.Q
end
section
set_option linter.unusedSimpArgs false
set_option linter.unusedVariables false
namespace Go.Proofs.YtnalcjgefbelnaaDoor.Q
open Go.RowKit Go.Proofs.YtnalcjgefbelnaaDoorW.PrintWords Go.Proofs.YtnalcjgefbelnaaDoorW.PrintLast Go.Proofs.YtnalcjgefbelnaaDoorW.PrintMore
attribute [local go_sem] max2_int min2_int max_two min_two max_three min_three max_four min_four
/-- Is a device a child of that parent to which the step leads? -/
def isF (p : Int) (s : ByteArray) (u : List Int) (x : S44) : Bool := (x.f2 == p) && ((x.f0.toList == s.toList) && (((u.length : Int) == 0) || decide (x.f1 = u)))
set_option maxHeartbeats 2000000 in
theorem findC_calls (x : S44) (A1 : Option Addr) (c1 : Nat) (A3 : Option Addr) (c3 : Nat) (A4 : Option Addr) (c4 : Nat) (p : Int) (s s2 : ByteArray) (u : List Int) (AU : Option Addr) (cu : Nat) (g1 g2 : Nat) (w : World) (h1 : w.heap[g1]? = some (.cells #[.int .i64 p] 3 (0, 0))) (h2 : w.heap[g2]? = some (.cells #[.string s, .slice AU u.length cu, .string s2] 49 (0, 0)))
  (hx : Kd.C (Kd.int .u32) w A1 x.f1.length x.f1) (hxc : x.f1.length ≤ c1) (hu : Kd.C (Kd.int .u32) w AU u.length u) (huc : u.length ≤ cu) :
  Calls Tryd.prog 56 #[.agg #[.string x.f0, .slice A1 x.f1.length c1, .int .i64 x.f2, .slice A3 x.f3.length c3, .slice A4 x.f4.length c4], .pointer (some ⟨g1, 0, none⟩), .pointer (some ⟨g2, 0, none⟩)] w fun e w' => e = .returned (.bool (isF p s u x)) ∧ Below w.heap.size w w' := by
 have hu44 := Tryd.underlying44
 have hu49 := Tryd.underlying49
 have hm := Kd.C_max hx
 have hEq := fun (W : World) (hb : Below w.heap.size w W) => slices_Equal_uint32_uint32.calls 9223372036854775808 A1 c1 x.f1 AU cu u (decide (x.f1 = u)) W (Kd.C_below hx hb) hxc (Kd.C_below hu hb) huc (equal_eq x.f1 u (by omega) _ (by omega))
 have HEQ := Aside0.mk hEq
 have HL := Aside0.mk (⟨blk_lt h1, blk_lt h2⟩ : g1 < w.heap.size ∧ g2 < w.heap.size)
 have H1 := Aside0.mk h1
 have H2 := Aside0.mk h2
 have HI := Aside0.mk (show isF p s u x = ((x.f2 == p) && ((x.f0.toList == s.toList) && (((u.length : Int) == 0) || decide (x.f1 = u)))) from rfl)
 clear h1 h2 hx hxc hu huc hm hEq
 cases b1 : (x.f2 == p) <;> cases b2 : (x.f0.toList == s.toList) <;> cases b3 : ((u.length : Int) == 0)
 all_goals (
  rw [b1, b2, b3] at HI
  go_enter Tryd.func56, Tryd.ntmps56
  go_wp2_with (first
   | ((with_reducible refine gate_dst (N := 3) rfl ?_); refine box_event ?hg (N := 3) ?hd (cs := #[.string x.f0, .slice A1 x.f1.length c1, .int .i64 x.f2, .slice A3 x.f3.length c3, .slice A4 x.f4.length c4]) (t := 44) ?hr ?_; (case hd => rfl); (case hg => rfl); (case hr => first | (go_simp; done) | (go_simp; rfl)); intro ga hga w1 hbox hb; have BK := Aside0.mk hbox; have hz0 := (blk_cell BK.out 0).trans rfl; have hz1 := (blk_cell BK.out 1).trans rfl; have hz2 := (blk_cell BK.out 2).trans rfl; have hf0 := blk_frozen BK.out 0; have hf1 := blk_frozen BK.out 1; have hf2 := blk_frozen BK.out 2; have hy1 : w1.cell? ⟨g1, 0, none⟩ = some (.int .i64 p) := (hb.cell (p := ⟨g1, 0, none⟩) HL.out.1).trans ((blk_cell H1.out 0).trans rfl); have hy2 : w1.cell? ⟨g2, 0, none⟩ = some (.string s) := (hb.cell (p := ⟨g2, 0, none⟩) HL.out.2).trans ((blk_cell H2.out 0).trans rfl); have hy3 : w1.cell? ⟨g2, 1, none⟩ = some (.slice AU u.length cu) := (hb.cell (p := ⟨g2, 1, none⟩) HL.out.2).trans ((blk_cell H2.out 1).trans rfl); have HB := Aside0.mk hb; clear hbox hb hga)
   | (go_at_call 57; (with_reducible refine (HEQ.out _ HB.out).mono ?_); rintro e w2 ⟨rfl, hd⟩; obtain ⟨n, rfl⟩ := hd.out; clear hd))
  go_ret
  exact ⟨by rw [HI.out]; rfl, by first | exact HB.out | exact pw_below_drewN HB.out _⟩)
set_option maxHeartbeats 2000000 in
set_option maxRecDepth 100000 in
theorem indexFind_calls (p : Int) (s s2 : ByteArray) (u : List Int) (AU : Option Addr) (cu : Nat) (g1 g2 : Nat) (A : Option Addr) (c : Nat) (l : List S44) (w : World) (hC : Kd.C k44 w A l.length l) (h1 : w.heap[g1]? = some (.cells #[.int .i64 p] 3 (0, 0))) (h2 : w.heap[g2]? = some (.cells #[.string s, .slice AU u.length cu, .string s2] 49 (0, 0))) (hu : Kd.C (Kd.int .u32) w AU u.length u) (huc : u.length ≤ cu) :
  Calls Tryd.prog 55 #[.slice A l.length c, .func (.func 56) #[] #[.pointer (some ⟨g1, 0, none⟩), .pointer (some ⟨g2, 0, none⟩)]] w fun e w' => e = .returned (.int .i64 (idxP (isF p s u) l)) ∧ Below w.heap.size w w' := by
 have hu44 := Tryd.underlying44
 have t1 := blk_lt h1
 have t2 := blk_lt h2
 have HC := Aside0.mk hC
 have HF := Aside0.mk (fun (x : S44) (A1 : Option Addr) (c1 : Nat) (A3 : Option Addr) (c3 : Nat) (A4 : Option Addr) (c4 : Nat) (W : World) (hb : Below w.heap.size w W) (hx : Kd.C (Kd.int .u32) W A1 x.f1.length x.f1) (hxc : x.f1.length ≤ c1) => findC_calls x A1 c1 A3 c3 A4 c4 p s s2 u AU cu g1 g2 W (by rw [hb.block g1 t1]; exact h1) (by rw [hb.block g2 t2]; exact h2) hx hxc (Kd.C_below hu hb) huc)
 clear hC h1 h2 hu huc
 go_enter Tryd.func55, Tryd.ntmps55
 go_wp2
 go_loopg [8] l.length (fun kq v8 w' => ∃ i : Int, v8 = .int .i64 i ∧ Aside0 (0 ≤ i ∧ i + kq = l.length) ∧ Aside0 (∀ j : Nat, j < i.toNat → (isF p s u) (l.getD j z44) = false) ∧ Aside0 (Below w.heap.size w w'))
 case atStart => exact ⟨0, rfl, ⟨by omega, by omega⟩, ⟨fun j hj => absurd hj (by simp)⟩, ⟨Below.refl _ _⟩⟩
 case round =>
  obtain ⟨i, rfl, HI, HZ, HB⟩ := hrel
  cases gk with
  | zero =>
   have hlt : decide (i < (l.length : Int)) = false := decide_eq_false (by have := HI.out; omega)
   go_wp2
   go_ret
   have hz := HZ.out
   have hi := HI.out
   refine ⟨?_, HB.out⟩
   rw [idxP_drop (isF p s u) z44 l i.toNat hz, List.drop_eq_nil_of_le (by omega)]
   rfl
  | succ k1 =>
   have hi := HI.out
   have hm := Kd.C_max HC.out
   have hlt : decide (i < (l.length : Int)) = true := decide_eq_true (by omega)
   have p1 : (0 ≤ i) = True := eq_true (by omega)
   have p2 : (i < (l.length : Int)) = True := eq_true (by omega)
   obtain ⟨ad, A1, c1, A3, c3, A4, c4, eA, hx0, hx1, hx2, hx3, hx4, hl1, hg1, hl3, hg3, hl4, hg4⟩ := at_T44 (Kd.C_below HC.out HB.out) i (by omega) (by omega)
   cases eA
   have HGD := Aside0.mk (show rd_T44 l i = l.getD i.toNat z44 from rfl)
   have HIN := Aside0.mk (show (isF p s u) (rd_T44 l i) = true → idxP (isF p s u) l = i from fun h => by
    rw [idxP_here (isF p s u) z44 l i.toNat HZ.out (by omega) h]
    omega)
   have hwr : IntKind.i64.wrap (i + 1) = i + 1 := (i64_w _).trans (by unfold wrap64; omega)
   have hwr2 : wrap64 (i + 1) = i + 1 := by unfold wrap64; omega
   have HG1 := Aside0.mk hg1; have HL1 := Aside0.mk hl1; clear hl1 hg1 hl3 hg3 hl4 hg4
   clear hi hm
   obtain ⟨b, hb0⟩ : ∃ b, b = (isF p s u) (rd_T44 l i) := ⟨_, rfl⟩
   have HBP := Aside0.mk hb0
   cases b with
   | true =>
    clear hb0
    go_wp2_with (first
     | (go_at_call 56; (with_reducible refine (HF.out (rd_T44 l i) A1 c1 A3 c3 A4 c4 _ HB.out HG1.out HL1.out).mono ?_); rintro e w2 ⟨rfl, hb⟩; rw [← HBP.out]; have HB2 := Aside0.mk (below_step HB.out hb); clear hb))
    go_ret
    exact ⟨by rw [HIN.out HBP.out.symm]; rfl, HB2.out⟩
   | false =>
    clear hb0
    go_wp2_with (first
     | (go_at_call 56; (with_reducible refine (HF.out (rd_T44 l i) A1 c1 A3 c3 A4 c4 _ HB.out HG1.out HL1.out).mono ?_); rintro e w2 ⟨rfl, hb⟩; rw [← HBP.out]; have HB2 := Aside0.mk (below_step HB.out hb); clear hb))
    go_roundg k1
    case measure => omega
    case rel =>
     have hi := HI.out
     refine ⟨i + 1, rfl, ⟨by omega, by omega⟩, ⟨fun j hj => ?_⟩, HB2⟩
     by_cases hji : j = i.toNat
     ·subst hji
      rw [← HGD.out]
      exact HBP.out.symm
     ·exact HZ.out j (by omega)
/-- Where steps lead from a device. -/
def findF (t : List S44) : List S49 → Int → Int × Int
 | [], p => (p, 0)
 | s :: r, p => if idxP (isF p s.f0 s.f1) t < 0 then (0, 19) else findF t r (idxP (isF p s.f0 s.f1) t)
def tree_Find.f (l0 : List S44) (l1 : List S49) : Option (Int × Int) := if treeF l0 = true then some (findF l0 l1 0) else some (0, 1)
theorem find_drop (t : List S44) (l : List S49) (i : Nat) (h : i < l.length) (p : Int) : findF t (l.drop i) p = if idxP (isF p (l.getD i z49).f0 (l.getD i z49).f1) t < 0 then (0, 19) else findF t (l.drop (i + 1)) (idxP (isF p (l.getD i z49).f0 (l.getD i z49).f1) t) := by
 have e : l.getD i z49 = l[i] := by rw [List.getD_eq_getElem?_getD, List.getElem?_eq_getElem h]; rfl
 rw [e, List.drop_eq_getElem_cons h, findF]
theorem cell1 {W : World} {g t : Nat} {u v : Value} (hh : W.heap[g]? = some (.cells #[u] t (0, 0))) : (W.setCell ⟨g, 0, none⟩ v).heap[g]? = some (.cells #[v] t (0, 0)) ∧ W.grownBy (W.setCell ⟨g, 0, none⟩ v) (some g) := by
 obtain ⟨cur', h1, h2, h3, h4⟩ := put_row (o := 0) hh v (show 0 < 1 from Nat.zero_lt_one)
 have : cur' = #[v] := by
  apply Array.toList_inj.1
  rw [h3]
  rfl
 rw [this] at h1
 exact ⟨h1, h4⟩
set_option maxHeartbeats 8000000 in
set_option maxRecDepth 100000 in
theorem tree_Find.calls (A0 : Option Addr) (c0 : Nat) (l0 : List S44) (A1 : Option Addr) (c1 : Nat) (l1 : List S49) (r1 r2 : Int) (w : World) (hr0 : Kd.C k44 w A0 l0.length l0) (hc0 : l0.length ≤ c0) (hr1 : Kd.C k49 w A1 l1.length l1) (hc1 : l1.length ≤ c1) (h : tree_Find.f l0 l1 = some (r1, r2)) :
  Calls Tryd.prog 21 #[.slice A0 l0.length c0, .slice A1 l1.length c1] w fun e w' => e = .returned (.tuple #[.int .i64 r1, .int .i64 r2]) ∧ Below w.heap.size w w' := by
 have hu44 := Tryd.underlying44
 have hu49 := Tryd.underlying49
 have hm := Kd.C_max hr1
 unfold tree_Find.f at h
 have HF := Aside0.mk (treeFormed_calls A0 c0 l0 w hr0 hc0)
 have HC0 := Aside0.mk hr0
 have HC1 := Aside0.mk hr1
 cases hb : treeF l0
 ·rw [if_neg (by rw [hb]; decide)] at h
  simp only [Option.some.injEq, Prod.mk.injEq] at h
  obtain ⟨rfl, rfl⟩ := h
  rw [hb] at HF
  clear hr0 hc0 hr1 hc1 hb hm
  go_enter Tryd.func21, Tryd.ntmps21
  go_wp2_with (go_at_call 12; refine HF.out.mono ?_; rintro e w1 ⟨rfl, hb⟩; have HB := Aside0.mk hb; clear hb)
  go_ret2
  exact ⟨rfl, HB.out⟩
 ·rw [if_pos hb] at h
  have HR := Aside0.mk (Option.some.inj h)
  rw [hb] at HF
  have HM := Aside0.mk hm
  clear hr0 hc0 hr1 hc1 hb h hm
  go_enter Tryd.func21, Tryd.ntmps21
  go_wp2_with (go_at_call 12; refine HF.out.mono ?_; rintro e w1 ⟨rfl, hb⟩; have HB := Aside0.mk hb; clear hb)
  obtain ⟨gA, hgA⟩ : ∃ gA, gA = w1.heap.size := ⟨_, rfl⟩
  have HGA := Aside0.mk (show w.heap.size ≤ gA by rw [hgA]; exact HB.out.size)
  have H0 := Aside0.mk (show (w1.alloc (.cells #[.int .i64 0] 3)).heap[gA]? = some (.cells #[.int .i64 0] 3 (0, 0)) by rw [hgA]; exact heap_alloc_new w1 _)
  rw [← hgA]
  clear hgA
  go_loopg [15] l1.length (fun kq v15 w' => ∃ (i : Nat) (p : Int), v15 = .int .i64 i ∧ Aside0 (i + kq = l1.length) ∧ Aside0 (findF l0 (l1.drop i) p = (r1, r2)) ∧ Aside0 (w'.heap[gA]? = some (.cells #[.int .i64 p] 3 (0, 0))) ∧ Aside0 (Below w.heap.size w w'))
  case atStart => exact ⟨0, 0, rfl, ⟨by omega⟩, HR, H0, ⟨below_alloc HB.out _⟩⟩
  case round =>
   obtain ⟨i, p, rfl, HI, HQ, HH, HB⟩ := hrel
   have hz := (blk_cell HH.out 0).trans rfl
   cases gk with
   | zero =>
    have hltN : decide (i < l1.length) = false := decide_eq_false (by have := HI.out; omega)
    have hq := HQ.out
    rw [List.drop_eq_nil_of_le (by have := HI.out; omega), findF] at hq
    obtain ⟨rfl, rfl⟩ : p = r1 ∧ (0 : Int) = r2 := by simpa using hq
    go_wp2
    go_ret2
    exact ⟨rfl, HB.out⟩
   | succ k1 =>
    have hi := HI.out
    have hil : i < l1.length := by omega
    have hltN : decide (i < l1.length) = true := decide_eq_true hil
    have p1 : (0 ≤ (i : Int)) = True := eq_true (by omega)
    have p2 : ((i : Int) < (l1.length : Int)) = True := eq_true (by omega)
    have p3 : (i < l1.length) = True := eq_true hil
    obtain ⟨ad, B1, b1, eA, hx0, hx1, hx2, hl1, hg1⟩ := at_T49 (Kd.C_below HC1.out HB.out) (i : Int) (by omega) (by omega)
    cases eA
    rw [Int.toNat_natCast] at hx0 hx1 hx2
    have hq := HQ.out
    rw [find_drop l0 l1 i hil p] at hq
    have HE := Aside0.mk (show rd_T49 l1 (i : Int) = l1.getD i z49 from rfl)
    rw [← HE.out] at hq
    generalize rd_T49 l1 (i : Int) = s at *
    have HIX := Aside0.mk (indexFind_calls p s.f0 s.f2 s.f1 B1 b1 gA wr.heap.size A0 c0 l0 (wr.alloc (.cells #[.string s.f0, .slice B1 s.f1.length b1, .string s.f2] 49)) (Kd.C_alloc (Kd.C_below HC0.out HB.out) _) (((below_alloc (Below.refl wr.heap.size wr) _).block gA (blk_lt HH.out)).trans HH.out) (heap_alloc_new wr _) (Kd.C_alloc hg1 _) hl1)
    have hwr : wrap64 ((i : Int) + 1) = ((i + 1 : Nat) : Int) := by unfold wrap64; have := HM.out; omega
    have HGL := Aside0.mk (blk_lt HH.out)
    have HWR := Aside0.mk hwr
    clear hwr
    have HQ2 := Aside0.mk hq
    clear hi hil hg1 hl1 hq
    by_cases hk : idxP (isF p s.f0 s.f1) l0 < 0
    ·have dk : decide (idxP (isF p s.f0 s.f1) l0 < 0) = true := decide_eq_true hk
     have hq := HQ2.out
     rw [if_pos hk] at hq
     obtain ⟨rfl, rfl⟩ : (0 : Int) = r1 ∧ (19 : Int) = r2 := by simpa using hq
     clear hk hq
     go_wp2_with (go_at_call 55; refine HIX.out.mono ?_; rintro e w2 ⟨rfl, hb⟩; have HB2 := Aside0.mk (below_step (below_alloc HB.out _) hb); clear hb)
     go_ret2
     exact ⟨rfl, HB2.out⟩
    ·have dk : decide (idxP (isF p s.f0 s.f1) l0 < 0) = false := decide_eq_false hk
     have hq := HQ2.out
     rw [if_neg hk] at hq
     have HQ3 := Aside0.mk hq
     generalize idxP (isF p s.f0 s.f1) l0 = k at *
     clear hk hq hz
     go_wp2_with (go_at_call 55; refine HIX.out.mono ?_; rintro e w2 ⟨rfl, hb⟩; have HB2 := Aside0.mk (below_step (below_alloc HB.out _) hb); have HH2 := Aside0.mk ((hb.block gA (by rw [World.size_alloc]; have := HGL.out; omega)).trans (((below_alloc (Below.refl wr.heap.size wr) _).block gA HGL.out).trans HH.out)); have hz2 := (blk_cell HH2.out 0).trans rfl; have hf2 := blk_frozen HH2.out 0; clear hb)
     go_roundg k1
     case measure => omega
     case rel =>
      obtain ⟨h5, h6⟩ := cell1 (v := .int .i64 k) HH2.out
      exact ⟨i + 1, k, by rw [HWR.out], ⟨by have := HI.out; omega⟩, HQ3, ⟨h5⟩, ⟨HB2.out.grown h6 (show w.heap.size ≤ w2.heap.size from HB2.out.size) (fun k' hk' => by injection hk' with hk'; have := HGA.out; omega)⟩⟩
end Go.Proofs.YtnalcjgefbelnaaDoor.Q
end
section
set_option linter.unusedSimpArgs false
set_option linter.unusedVariables false
namespace Go.Proofs.YtnalcjgefbelnaaDoor.Q
open Go.RowKit Go.Proofs.YtnalcjgefbelnaaDoorW.PrintWords Go.Proofs.YtnalcjgefbelnaaDoorW.PrintLast
theorem upF_le (t : List S44) (k : Nat) (n : Int) (h : n ≤ 0) : upF t k n = [] := by
 cases k with
 | zero => rfl
 | succ k => rw [upF, if_neg (by omega)]
theorem upF_more {t : List S44} (hF : treeF t = true) : ∀ (m k : Nat) (n : Int), n.toNat ≤ m → m ≤ k → n < t.length → upF t k n = upF t m n
 | 0, k, n, h1, h2, h3 => by rw [upF_le t k n (by omega), upF_le t 0 n (by omega)]
 | m + 1, k, n, h1, h2, h3 => by
  obtain ⟨k, rfl⟩ : ∃ j, k = j + 1 := ⟨k - 1, by omega⟩
  rw [upF, upF]
  by_cases h0 : 0 < n
  ·have hu := form_up hF n h0 h3
   rw [if_pos h0, if_pos h0, upF_more hF m k _ (by omega) (by omega) (by omega)]
  ·rw [if_neg h0, if_neg h0]
theorem upF_step {t : List S44} (hF : treeF t = true) (n : Int) (h0 : 0 < n) (h3 : n < t.length) : upF t n.toNat n = (⟨(rd_T44 t n).f0, (rd_T44 t n).f1, ⟨#[]⟩⟩ : S49) :: upF t (rd_T44 t n).f2.toNat (rd_T44 t n).f2 := by
 have hu := form_up hF n h0 h3
 obtain ⟨k, hk⟩ : ∃ j, n.toNat = j + 1 := ⟨n.toNat - 1, by omega⟩
 rw [hk, upF, if_pos h0, upF_more hF (rd_T44 t n).f2.toNat k _ (by omega) (by omega) (by omega)]
/-- Has a device no unit address and an elder brother of its name? -/
def elderF (t : List S44) (n : Int) : Bool := (((rd_T44 t n).f1.length : Int) == 0) && (t.take n.toNat).any fun x => (x.f2 == (rd_T44 t n).f2) && (x.f0.toList == (rd_T44 t n).f0.toList)
def noElder (t : List S44) : Nat → Int → Bool
 | 0, _ => true
 | k + 1, n => if 0 < n then !elderF t n && noElder t k (rd_T44 t n).f2 else true
end Go.Proofs.YtnalcjgefbelnaaDoor.Q
end
section
namespace Go.Proofs.YtnalcjgefbelnaaDoor.Q
open Go.RowKit Go.Proofs.YtnalcjgefbelnaaDoorW.PrintWords Go.Proofs.YtnalcjgefbelnaaDoorW.PrintLast Go.Proofs.YtnalcjgefbelnaaDoorW.PrintMore
set_option linter.unusedVariables false
set_option linter.unusedSimpArgs false

attribute [local go_sem] max2_int min2_int max_two min_two max_three min_three max_four min_four
/-! ### tinderref08_Steps: function 61 -/
def tinderref08_Steps.l0 : Nat → List (S44) → Int → List (S49) → Option ((List (S49)))
 | 0, _, _, _ => none
 | k + 1, x0, x1, x5 => if x1 > 0 then (if 0 ≤ x1 then (if x1 < (x0.length : Int) then ((tinderref03_Copy.f ((rd_T44 x0 x1).f1)).bind fun t62003 => ((some (([(⟨(rd_T44 x0 x1).f0, t62003, (⟨#[]⟩ : ByteArray)⟩ : S49)] : List (S49)) : List (S49))).bind fun y62006 => (if y62006.length + x5.length < 2513169434916 then (tinderref08_Steps.l0 k x0 ((rd_T44 x0 x1).f2) (y62006 ++ x5)) else (none)))) else (none)) else (none)) else (some x5)
def tinderref08_Steps.f (k : Nat) (l0 : List (S44)) (a1 : Int) : Option ((List (S49))) := tinderref08_Steps.l0 k l0 a1 ([] : List (S49))
def tinderref08_Steps.T3 : Bool × List (List Nat × List Nat) := (true, [([], []), ([], []), ([0, 1], [0, 1]), ([2], [2]), ([3], [3]), ([], []), ([], []), ([5, 6], [5, 6]), ([7], [7]), ([8], [8]), ([9], [9]), ([4, 10], [4, 10]), ([11], [11]), ([12, 10, 0, 1, 2, 3, 4, 5, 6, 7, 8, 9, 10, 11, 12], [12])])
def tinderref08_Steps.B3 : List Nat := [0, 0, 3, 7, 15, 0, 0, 96, 224, 480, 992, 2047, 4095, 8191]
theorem tinderref08_Steps.tab3 : rtab .any (opsOf Tryd.f61 3) = tinderref08_Steps.T3 := by kernel_rfl
theorem tinderref08_Steps.bits3 : waitsOk tinderref08_Steps.T3.2 tinderref08_Steps.B3 = true := by kernel_rfl
set_option maxHeartbeats 8000000 in
set_option maxRecDepth 100000 in
theorem tinderref08_Steps.calls (k : Nat) (A0 : Option Addr) (c0 : Nat) (l0 : List (S44)) (a1 : Int) (r : List (S49)) (w : World) (hr0 : Kd.C k44 w A0 l0.length l0) (hc0 : l0.length ≤ c0) (h : tinderref08_Steps.f k l0 a1 = some r) :
  Calls Tryd.prog 61 #[.slice A0 l0.length c0, .int .i64 a1] w fun e w' => ∃ v0_ : Value, e = .returned (v0_) ∧ Kd.N k49 49 w' w.heap.size (fun k_ => (w.heap.size ≤ k_)) v0_ r ∧ Below w.heap.size w w' := by
 have hu49 := Tryd.underlying49
 have HR0 := Aside0.mk hr0
 have HC0 := Aside0.mk hc0
 clear hr0 hc0
 have HB := Aside0.mk (Below.refl w.heap.size w)
 have H : (tinderref08_Steps.l0 k l0 a1 ([] : List (S49))) = some r := h
 clear h
 have H' := Aside0.mk H
 clear H
 go_enter Tryd.func61, Tryd.ntmps61
 go_wp2
 go_loopg [1, 5] k (fun kq v1 v5 w' => ∃ (x1_1 : Int) (x5_1 : List (S49)), v1 = .int .i64 x1_1 ∧ Aside0 (tinderref08_Steps.l0 kq l0 x1_1 x5_1 = some r) ∧ Aside0 (kq ≤ k) ∧ Aside0 (Kd.N k49 49 w' w.heap.size (fun k_ => (w.heap.size ≤ k_)) v5 x5_1) ∧ Aside0 (Below w.heap.size w w'))
 case atStart => exact ⟨(a1), (([] : List (S49))), (by first | rfl | (simp; done) | (simp [*]; done)), H', ⟨Nat.le_refl _⟩, ⟨by first | exact Kd.S_nil _ _ _ _ _ | exact Kd.N_nil _ _ _ _ _ | exact Kd.V_nil _ _ _ _ _ | exact Kd.Q_nil _ _ _ _ _ | exact Kd.R_nil _ _ _ _ _⟩, ⟨by repeat (first | (with_reducible first | exact HB.out | apply below_alloc | apply pw_below_drewN | apply below_drew1) | exact HB.out)⟩⟩
 case round =>
  clear H'
  try clear p2
  obtain ⟨x1_1, x5_1, rfl, HA, HK1, HO_5, HB⟩ := hrel
  cases gk with
  | zero => exact absurd HA.out (by simp [tinderref08_Steps.l0])
  | succ k1 =>
   have H := HA.out
   clear HA
   simp only [tinderref08_Steps.l0] at H
   by_cases c3 : x1_1 > 0
   ·rw [if_pos c3] at H
    have c3b0 : decide (0 < x1_1) = true := decide_eq_true c3
    clear c3
    by_cases c4 : 0 ≤ x1_1
    ·rw [if_pos c4] at H
     have c4b0 : decide (0 ≤ x1_1) = true := decide_eq_true c4
     clear c4
     by_cases c5 : x1_1 < (l0.length : Int)
     ·rw [if_pos c5] at H
      have c5b0 : decide (x1_1 < (l0.length : Int)) = true := decide_eq_true c5
      clear c5
      replace H := Option.bind_eq_some_iff.mp H
      obtain ⟨t62003, A60, H⟩ := H
      replace H : ((some (([(⟨(rd_T44 l0 x1_1).f0, t62003, (⟨#[]⟩ : ByteArray)⟩ : S49)] : List (S49)) : List (S49))).bind fun y62006 => (if y62006.length + x5_1.length < 2513169434916 then (tinderref08_Steps.l0 k1 l0 ((rd_T44 l0 x1_1).f2) (y62006 ++ x5_1)) else (none))) = some r := H
      have A6 := Aside0.mk A60
      clear A60
      obtain ⟨y62006, hy62006⟩ : ∃ y_ : List (S49), y_ = (([(⟨(rd_T44 l0 x1_1).f0, t62003, (⟨#[]⟩ : ByteArray)⟩ : S49)] : List (S49))) := ⟨_, rfl⟩
      replace H : (if y62006.length + x5_1.length < 2513169434916 then (tinderref08_Steps.l0 k1 l0 ((rd_T44 l0 x1_1).f2) (y62006 ++ x5_1)) else (none)) = some r := by first | (rw [hy62006]; with_reducible exact H) | (have H2_ := (Option.bind_some _ _).symm.trans H; rw [hy62006]; with_reducible exact H2_) | (have H2_ := (Option.bind_some _ _).symm.trans H; with_reducible exact H2_) | with_reducible exact H | (rw [hy62006]; exact H) | exact H
      have Ny62006 := Aside0.mk hy62006
      clear hy62006
      by_cases c7 : y62006.length + x5_1.length < 2513169434916
      ·rw [if_pos c7] at H
       have LMc7 := Aside0.mk c7
       clear c7
       obtain ⟨y62009, hy62009⟩ : ∃ y_ : List (S49), y_ = (y62006 ++ x5_1) := ⟨_, rfl⟩
       replace H : (tinderref08_Steps.l0 k1 l0 ((rd_T44 l0 x1_1).f2) y62009) = some r := by first | (rw [hy62009]; with_reducible exact H) | (have H2_ := (Option.bind_some _ _).symm.trans H; rw [hy62009]; with_reducible exact H2_) | (have H2_ := (Option.bind_some _ _).symm.trans H; with_reducible exact H2_) | with_reducible exact H | (rw [hy62009]; exact H) | exact H
       have Ny62009 := Aside0.mk hy62009
       clear hy62009
       have H' := Aside0.mk H
       clear H
       try go_wp2
       have n0_ := Aside0.mk (Kd.N_drew HO_5.out)
       have n1_ := Aside0.mk (below_drew1 HB.out)
       clear HO_5
       clear HB
       have HO_5 := n0_
       have HB := n1_
       clear n0_ n1_
       have p62001 : 0 ≤ (x1_1 : Int) := of_decide_eq_true (by first | (with_reducible assumption) | assumption)
       have q62001 : x1_1 < (l0.length : Int) := of_decide_eq_true (by first | (with_reducible assumption) | assumption)
       obtain ⟨ad62001, A62001_1, c62001_1, A62001_3, c62001_3, A62001_4, c62001_4, e62001, hx62001_0, hx62001_1, hx62001_2, hx62001_3, hx62001_4, hl62001_1, hi62001_1, hl62001_3, hi62001_3, hl62001_4, hi62001_4⟩ := at_T44 HR0.out x1_1 p62001 q62001
       have hw62001_4 := hx62001_4
       have hw62001_3 := hx62001_3
       have hw62001_2 := hx62001_2
       have hw62001_1 := hx62001_1
       have hw62001_0 := hx62001_0
       cases e62001
       replace hx62001_0 := (HB.out.cell (World.block_lt_of_cell? w _ hx62001_0)).trans hx62001_0
       replace hx62001_1 := (HB.out.cell (World.block_lt_of_cell? w _ hx62001_1)).trans hx62001_1
       replace hx62001_2 := (HB.out.cell (World.block_lt_of_cell? w _ hx62001_2)).trans hx62001_2
       replace hx62001_3 := (HB.out.cell (World.block_lt_of_cell? w _ hx62001_3)).trans hx62001_3
       replace hx62001_4 := (HB.out.cell (World.block_lt_of_cell? w _ hx62001_4)).trans hx62001_4
       have HR62001_1 := Aside0.mk hi62001_1
       have HC62001_1 := Aside0.mk hl62001_1
       clear hi62001_1 hl62001_1
       have HR62001_3 := Aside0.mk hi62001_3
       have HC62001_3 := Aside0.mk hl62001_3
       clear hi62001_3 hl62001_3
       have HR62001_4 := Aside0.mk hi62001_4
       have HC62001_4 := Aside0.mk hl62001_4
       clear hi62001_4 hl62001_4
       replace p62001 := eq_true p62001
       replace q62001 := eq_true q62001
       have p62002 : 0 ≤ (x1_1 : Int) := of_decide_eq_true (by first | (with_reducible assumption) | assumption)
       have q62002 : x1_1 < (l0.length : Int) := of_decide_eq_true (by first | (with_reducible assumption) | assumption)
       obtain ⟨ad62002, A62002_1, c62002_1, A62002_3, c62002_3, A62002_4, c62002_4, e62002, hx62002_0, hx62002_1, hx62002_2, hx62002_3, hx62002_4, hl62002_1, hi62002_1, hl62002_3, hi62002_3, hl62002_4, hi62002_4⟩ := at_T44 HR0.out x1_1 p62002 q62002
       have hw62002_4 := hx62002_4
       have hw62002_3 := hx62002_3
       have hw62002_2 := hx62002_2
       have hw62002_1 := hx62002_1
       have hw62002_0 := hx62002_0
       obtain rfl : ad62001 = ad62002 := (by injection e62002)
       replace hx62002_0 := (HB.out.cell (World.block_lt_of_cell? w _ hx62002_0)).trans hx62002_0
       replace hx62002_1 := (HB.out.cell (World.block_lt_of_cell? w _ hx62002_1)).trans hx62002_1
       replace hx62002_2 := (HB.out.cell (World.block_lt_of_cell? w _ hx62002_2)).trans hx62002_2
       replace hx62002_3 := (HB.out.cell (World.block_lt_of_cell? w _ hx62002_3)).trans hx62002_3
       replace hx62002_4 := (HB.out.cell (World.block_lt_of_cell? w _ hx62002_4)).trans hx62002_4
       have HR62002_1 := Aside0.mk hi62002_1
       have HC62002_1 := Aside0.mk hl62002_1
       clear hi62002_1 hl62002_1
       have HR62002_3 := Aside0.mk hi62002_3
       have HC62002_3 := Aside0.mk hl62002_3
       clear hi62002_3 hl62002_3
       have HR62002_4 := Aside0.mk hi62002_4
       have HC62002_4 := Aside0.mk hl62002_4
       clear hi62002_4 hl62002_4
       replace p62002 := eq_true p62002
       replace q62002 := eq_true q62002
       have ea_ := Option.some.inj (hx62001_1.symm.trans hx62002_1)
       injection ea_ with ea_ en_ ec_
       subst ea_
       subst ec_
       clear en_
       have ea_ := Option.some.inj (hx62001_3.symm.trans hx62002_3)
       injection ea_ with ea_ en_ ec_
       subst ea_
       subst ec_
       clear en_
       have ea_ := Option.some.inj (hx62001_4.symm.trans hx62002_4)
       injection ea_ with ea_ en_ ec_
       subst ea_
       subst ec_
       clear en_
       refine start_ (n := 14) (S := fun w' => w'.cell? (ad62001.add ((x1_1).toNat * 5)) = some (.string ((rd_T44 l0 x1_1).f0)) ∧ w'.cell? ⟨(ad62001.add ((x1_1).toNat * 5)).block, (ad62001.add ((x1_1).toNat * 5)).off + 1, none⟩ = some (.slice A62001_1 ((rd_T44 l0 x1_1).f1).length c62001_1) ∧ w'.cell? ⟨(ad62001.add ((x1_1).toNat * 5)).block, (ad62001.add ((x1_1).toNat * 5)).off + 2, none⟩ = some (.int .i64 ((rd_T44 l0 x1_1).f2)) ∧ w'.cell? ⟨(ad62001.add ((x1_1).toNat * 5)).block, (ad62001.add ((x1_1).toNat * 5)).off + 3, none⟩ = some (.slice A62001_3 ((rd_T44 l0 x1_1).f3).length c62001_3) ∧ w'.cell? ⟨(ad62001.add ((x1_1).toNat * 5)).block, (ad62001.add ((x1_1).toNat * 5)).off + 4, none⟩ = some (.slice A62001_4 ((rd_T44 l0 x1_1).f4).length c62001_4) ∧ w'.cell? (ad62001.add ((x1_1).toNat * 5)) = some (.string ((rd_T44 l0 x1_1).f0)) ∧ w'.cell? ⟨(ad62001.add ((x1_1).toNat * 5)).block, (ad62001.add ((x1_1).toNat * 5)).off + 1, none⟩ = some (.slice A62001_1 ((rd_T44 l0 x1_1).f1).length c62001_1) ∧ w'.cell? ⟨(ad62001.add ((x1_1).toNat * 5)).block, (ad62001.add ((x1_1).toNat * 5)).off + 2, none⟩ = some (.int .i64 ((rd_T44 l0 x1_1).f2)) ∧ w'.cell? ⟨(ad62001.add ((x1_1).toNat * 5)).block, (ad62001.add ((x1_1).toNat * 5)).off + 3, none⟩ = some (.slice A62001_3 ((rd_T44 l0 x1_1).f3).length c62001_3) ∧ w'.cell? ⟨(ad62001.add ((x1_1).toNat * 5)).block, (ad62001.add ((x1_1).toNat * 5)).off + 4, none⟩ = some (.slice A62001_4 ((rd_T44 l0 x1_1).f4).length c62001_4)) (ds := []) #[false, false, false, false, false, false, false, false, false, false, false, false, false, false] (by kernel_rfl) rfl rfl ⟨((HB.out.cell (World.block_lt_of_cell? w _ hw62001_0)).trans hw62001_0), ((HB.out.cell (World.block_lt_of_cell? w _ hw62001_1)).trans hw62001_1), ((HB.out.cell (World.block_lt_of_cell? w _ hw62001_2)).trans hw62001_2), ((HB.out.cell (World.block_lt_of_cell? w _ hw62001_3)).trans hw62001_3), ((HB.out.cell (World.block_lt_of_cell? w _ hw62001_4)).trans hw62001_4), ((HB.out.cell (World.block_lt_of_cell? w _ hw62002_0)).trans hw62002_0), ((HB.out.cell (World.block_lt_of_cell? w _ hw62002_1)).trans hw62002_1), ((HB.out.cell (World.block_lt_of_cell? w _ hw62002_2)).trans hw62002_2), ((HB.out.cell (World.block_lt_of_cell? w _ hw62002_3)).trans hw62002_3), ((HB.out.cell (World.block_lt_of_cell? w _ hw62002_4)).trans hw62002_4)⟩ (fun hHeld => ?_); refine with_tabW tinderref08_Steps.tab3 tinderref08_Steps.bits3 (fun HT_ HW_ => ?_)
       generalize wr.drew = w8 at HO_5 HB HR62001_1 HR62001_3 HR62001_4 HR62002_1 HR62002_3 HR62002_4 hx62001_0 hx62001_1 hx62001_2 hx62001_3 hx62001_4 hx62002_0 hx62002_1 hx62002_2 hx62002_3 hx62002_4 hHeld ⊢
       refine pure_ (i := 0) (N := some 9) (v := ?_) (a' := ?_) #[true, false, false, false, false, false, false, false, false, false, false, false, false, false] rfl rfl (any_of HT_.out (by kernel_rfl)) (fun _ _ _ h => h) (Or.inl ⟨by rfl, ?_⟩) ?_ ?_
       rotate_left
       ·intro w'
        go_simp
        with_reducible rfl
       rotate_left
       ·simp only [Act.put, List.setIfInBounds_toArray, List.set_cons_zero, List.set_cons_succ, i64_w, i32_w]
        rfl
       refine pure_ (i := 1) (N := some 10) (v := ?_) (a' := ?_) #[true, true, false, false, false, false, false, false, false, false, false, false, false, false] rfl rfl (any_of HT_.out (by kernel_rfl)) (fun _ _ _ h => h) (Or.inl ⟨by rfl, ?_⟩) ?_ ?_
       rotate_left
       ·intro w'
        go_simp
        with_reducible rfl
       rotate_left
       ·simp only [Act.put, List.setIfInBounds_toArray, List.set_cons_zero, List.set_cons_succ, i64_w, i32_w]
        rfl
       refine pure_ (i := 2) (N := some 11) (v := ?_) (a' := ?_) #[true, true, true, false, false, false, false, false, false, false, false, false, false, false] rfl rfl (any_of HT_.out (by kernel_rfl)) (fun _ _ _ h => h) (Or.inl ⟨by rfl, ?_⟩) ?_ ?_
       rotate_left
       ·intro w'
        go_simp
        with_reducible rfl
       rotate_left
       ·simp only [Act.put, List.setIfInBounds_toArray, List.set_cons_zero, List.set_cons_succ, i64_w, i32_w]
        rfl
       refine pure_ (i := 3) (N := some 12) (v := ?_) (a' := ?_) #[true, true, true, true, false, false, false, false, false, false, false, false, false, false] rfl rfl (any_of HT_.out (by kernel_rfl)) (fun _ _ _ h => h) (Or.inl ⟨by rfl, ?_⟩) ?_ ?_
       rotate_left
       ·intro w'
        go_simp
        with_reducible rfl
       rotate_left
       ·simp only [Act.put, List.setIfInBounds_toArray, List.set_cons_zero, List.set_cons_succ, i64_w, i32_w]
        rfl
       refine pure_ (i := 5) (N := some 14) (v := ?_) (a' := ?_) #[true, true, true, true, false, true, false, false, false, false, false, false, false, false] rfl rfl (any_of HT_.out (by kernel_rfl)) (fun _ _ _ h => h) (Or.inl ⟨by rfl, ?_⟩) ?_ ?_
       rotate_left
       ·intro w'
        go_simp
        with_reducible rfl
       rotate_left
       ·simp only [Act.put, List.setIfInBounds_toArray, List.set_cons_zero, List.set_cons_succ, i64_w, i32_w]
        rfl
       refine pure_ (i := 6) (N := some 15) (v := ?_) (a' := ?_) #[true, true, true, true, false, true, true, false, false, false, false, false, false, false] rfl rfl (any_of HT_.out (by kernel_rfl)) (fun _ _ _ h => h) (Or.inl ⟨by rfl, ?_⟩) ?_ ?_
       rotate_left
       ·intro w'
        go_simp
        with_reducible rfl
       rotate_left
       ·simp only [Act.put, List.setIfInBounds_toArray, List.set_cons_zero, List.set_cons_succ, i64_w, i32_w]
        rfl
       refine pure_ (i := 7) (N := some 16) (v := ?_) (a' := ?_) #[true, true, true, true, false, true, true, true, false, false, false, false, false, false] rfl rfl (any_of HT_.out (by kernel_rfl)) (fun _ _ _ h => h) (Or.inl ⟨by rfl, ?_⟩) ?_ ?_
       rotate_left
       ·intro w'
        go_simp
        with_reducible rfl
       rotate_left
       ·simp only [Act.put, List.setIfInBounds_toArray, List.set_cons_zero, List.set_cons_succ, i64_w, i32_w]
        rfl
       refine pure_ (i := 8) (N := some 17) (v := ?_) (a' := ?_) #[true, true, true, true, false, true, true, true, true, false, false, false, false, false] rfl rfl (any_of HT_.out (by kernel_rfl)) (fun _ _ _ h => h) (Or.inl ⟨by rfl, ?_⟩) ?_ ?_
       rotate_left
       ·intro w'
        go_simp
        with_reducible rfl
       rotate_left
       ·simp only [Act.put, List.setIfInBounds_toArray, List.set_cons_zero, List.set_cons_succ, i64_w, i32_w]
        rfl
       refine take_ (i := 4) (N := some 13) (v := ?_) (a' := ?_) #[true, true, true, true, true, true, true, true, true, false, false, false, false, false] rfl rfl (take_ofW HT_.out HW_.out (by kernel_rfl)) (fun _ _ _ h => h) (Or.inl ⟨by rfl, ?_⟩) hHeld ?_ ?_
       rotate_left
       ·rintro w' ⟨s0, s1, s2, s3, s4, s5, s6, s7, s8, s9⟩
        go_simp
        with_reducible rfl
       rotate_left
       ·simp only [Act.put, List.setIfInBounds_toArray, List.set_cons_zero, List.set_cons_succ, i64_w, i32_w]
        rfl
       refine take_ (i := 9) (N := some 18) (v := ?_) (a' := ?_) #[true, true, true, true, true, true, true, true, true, true, false, false, false, false] rfl rfl (take_ofW HT_.out HW_.out (by kernel_rfl)) (fun _ _ _ h => h) (Or.inl ⟨by rfl, ?_⟩) hHeld ?_ ?_
       rotate_left
       ·rintro w' ⟨s0, s1, s2, s3, s4, s5, s6, s7, s8, s9⟩
        go_simp
        with_reducible rfl
       rotate_left
       ·simp only [Act.put, List.setIfInBounds_toArray, List.set_cons_zero, List.set_cons_succ, i64_w, i32_w]
        rfl
       refine one_ (i := 10) (N := some 19) #[true, true, true, true, true, true, true, true, true, true, true, false, false, false] rfl rfl (one_of HT_.out (by kernel_rfl)) (by decide) (fun K hK => ?_)
       refine goes_ Tryd.func51 (by kernel_rfl) rfl #[.slice A62001_1 ((rd_T44 l0 x1_1).f1).length c62001_1] (by rfl) rfl rfl (by (try simp only [List.map_toArray, List.map_cons, List.map_nil]); first | done | rfl | (simp only [List.length_drop, List.length_take]; rfl)) ?_
       with_reducible refine (tinderref03_Copy.calls _ _ ((rd_T44 l0 x1_1).f1) t62003 _ ?side1 ?side2 A6.out).mono ?_
       (case side1 => repeat (first | exact (Kd.C_below HR62002_1.out HB.out) | (with_reducible refine Kd.C_alloc ?_ _) | (with_reducible refine Kd.C_drewN ?_ _) | (with_reducible refine Kd.C_drew ?_)))
       (case side2 => exact HC62002_1.out)
       rintro e w9 ⟨v62004, rfl, ho0, hb⟩
       refine ⟨_, rfl, ?_⟩
       have n0_ := Aside0.mk (Kd.N_elder' (by (with_reducible repeat (first | apply Kd.N_alloc | apply Kd.N_drewN | apply Kd.N_drew)); exact HO_5.out) (Kd.R_base ho0) hb)
       have n1_ := Aside0.mk (Kd.R_lower (Kd.R_newM (M := fun k_ => (w.heap.size ≤ k_)) ho0 (below_size (by repeat (first | (with_reducible first | exact HB.out | apply below_alloc | apply pw_below_drewN | apply below_drew1) | exact HB.out))) (fun k_ h_ => h_)) (below_size (by repeat (first | (with_reducible first | exact HB.out | apply below_alloc | apply pw_below_drewN | apply below_drew1) | exact HB.out))))
       have n2_ := Aside0.mk (below_step (by repeat (first | (with_reducible first | exact HB.out | apply below_alloc | apply pw_below_drewN | apply below_drew1) | exact HB.out)) hb)
       clear HO_5
       clear HB
       have HO_5 := n0_
       have HO62005 := n1_
       have HB := n2_
       clear n0_ n1_ n2_
       (try clear hb)
       (try clear hb2)
       (try clear hk)
       (try clear hi)
       (try clear ho0)
       obtain ⟨Ao10, co10, eo10⟩ := Kd.R_slice HO62005.out
       (first | subst eo10 | (injection eo10 with f1_ f2_ f3_; have f4_ := f1_.symm; have f5_ := f3_.symm; clear f1_ f2_ f3_; subst f4_; subst f5_))
       refine hK.out _ _ ⟨((HB.out.cell (World.block_lt_of_cell? w _ hw62001_0)).trans hw62001_0), ((HB.out.cell (World.block_lt_of_cell? w _ hw62001_1)).trans hw62001_1), ((HB.out.cell (World.block_lt_of_cell? w _ hw62001_2)).trans hw62001_2), ((HB.out.cell (World.block_lt_of_cell? w _ hw62001_3)).trans hw62001_3), ((HB.out.cell (World.block_lt_of_cell? w _ hw62001_4)).trans hw62001_4), ((HB.out.cell (World.block_lt_of_cell? w _ hw62002_0)).trans hw62002_0), ((HB.out.cell (World.block_lt_of_cell? w _ hw62002_1)).trans hw62002_1), ((HB.out.cell (World.block_lt_of_cell? w _ hw62002_2)).trans hw62002_2), ((HB.out.cell (World.block_lt_of_cell? w _ hw62002_3)).trans hw62002_3), ((HB.out.cell (World.block_lt_of_cell? w _ hw62002_4)).trans hw62002_4)⟩ (fun hHeld => ?_)
       clear hK K
       refine norm_ (a' := ?_) ?_ ?_
       rotate_left
       ·show Act.put _ (some 19) _ = _
        simp only [Act.put, List.setIfInBounds_toArray, List.set_cons_zero, List.set_cons_succ, i64_w, i32_w]
        rfl
       refine pure_ (i := 11) (N := some 20) (v := ?_) (a' := ?_) #[true, true, true, true, true, true, true, true, true, true, true, true, false, false] rfl rfl (any_of HT_.out (by kernel_rfl)) (fun _ _ _ h => h) (Or.inl ⟨by rfl, ?_⟩) ?_ ?_
       rotate_left
       ·intro w'
        go_simp
        with_reducible rfl
       rotate_left
       ·simp only [Act.put, List.setIfInBounds_toArray, List.set_cons_zero, List.set_cons_succ, i64_w, i32_w]
        rfl
       refine one_ (i := 12) (N := some 21) #[true, true, true, true, true, true, true, true, true, true, true, true, true, false] rfl rfl (one_of HT_.out (by kernel_rfl)) (by decide) (fun K hK => ?_)
       refine Kd.N_lit_step k49 _ 49 ?hg (N' := 21) ?hd (xs := ([(⟨(rd_T44 l0 x1_1).f0, t62003, (⟨#[]⟩ : ByteArray)⟩ : S49)] : List (S49))) (inner := [.string ((rd_T44 l0 x1_1).f0), .slice Ao10 t62003.length co10, .string (⟨#[]⟩ : ByteArray)]) (ok := (fun k_ => (w.heap.size ≤ k_) ∧ some k_ ≠ (u5 : Value).ownBlock)) (okp := (fun k_ => (w.heap.size ≤ k_) ∧ some k_ ≠ (u5 : Value).ownBlock)) ?hr ?hp (fun _ hk => hk) ((show ∀ k_, w9.heap.size ≤ k_ → (fun k_ => (w.heap.size ≤ k_) ∧ some k_ ≠ (u5 : Value).ownBlock) k_ from fun k_ hk => ⟨(Nat.le_trans (below_size (by repeat (first | (with_reducible first | exact HB.out | apply below_alloc | apply pw_below_drewN | apply below_drew1) | exact HB.out))) hk), Kd.fresh' (Kd.N_lt (by (with_reducible repeat (first | apply Kd.N_alloc | apply Kd.N_drewN | apply Kd.N_drew)); exact HO_5.out)) k_ hk⟩) _ (Nat.le_refl _)) (Below.refl _ _) (Nat.le_refl _) (by simp) ?_; (case hd => rfl); (case hg => rfl); (case hr => first | (go_simp; done) | (go_simp; rfl)); (case hp => exact (Reps.c3 (show Kd.FK k49 _ _ (⟨(rd_T44 l0 x1_1).f0, t62003, (⟨#[]⟩ : ByteArray)⟩ : S49) [.string ((rd_T44 l0 x1_1).f0), .slice Ao10 t62003.length co10, .string (⟨#[]⟩ : ByteArray)] from (k49_mkF _ _ (⟨(rd_T44 l0 x1_1).f0, t62003, (⟨#[]⟩ : ByteArray)⟩ : S49) (Kd.R_reads' (Kd.R_mono (ok' := (fun k_ => (w.heap.size ≤ k_) ∧ some k_ ≠ (u5 : Value).ownBlock)) (Kd.R_apart' (HO62005.out) (Kd.N_typed HO_5.out) (by decide)) (fun k_ hk => ⟨hk.1.1, hk.2⟩))).2.1 (Kd.R_F (Kd.R_mono (ok' := (fun k_ => (w.heap.size ≤ k_) ∧ some k_ ≠ (u5 : Value).ownBlock)) (Kd.R_apart' (HO62005.out) (Kd.N_typed HO_5.out) (by decide)) (fun k_ hk => ⟨hk.1.1, hk.2⟩))))) (Reps.none _ _)))
       intro v62007 w11 ho12 hb hg_ hnew_
       clear hg_ hnew_
       (first | rw [← Ny62006.out] at ho12 | (simp only [Int.reduceToNat] at ho12; rw [← Ny62006.out] at ho12))
       have n0_ := Aside0.mk (Kd.N_elder' (by (with_reducible repeat (first | apply Kd.N_alloc | apply Kd.N_drewN | apply Kd.N_drew)); exact HO_5.out) (Kd.N_base ho12) hb)
       have n1_ := Aside0.mk (Kd.N_lower ho12 (below_size (by repeat (first | (with_reducible first | exact HB.out | apply below_alloc | apply pw_below_drewN | apply below_drew1) | exact HB.out))))
       have n2_ := Aside0.mk (below_step (by repeat (first | (with_reducible first | exact HB.out | apply below_alloc | apply pw_below_drewN | apply below_drew1) | exact HB.out)) hb)
       clear HO_5
       clear HB
       clear HO62005
       have HO_5 := n0_
       have HO62008 := n1_
       have HB := n2_
       clear n0_ n1_ n2_
       clear hb ho12
       refine hK.out _ _ ⟨((HB.out.cell (World.block_lt_of_cell? w _ hw62001_0)).trans hw62001_0), ((HB.out.cell (World.block_lt_of_cell? w _ hw62001_1)).trans hw62001_1), ((HB.out.cell (World.block_lt_of_cell? w _ hw62001_2)).trans hw62001_2), ((HB.out.cell (World.block_lt_of_cell? w _ hw62001_3)).trans hw62001_3), ((HB.out.cell (World.block_lt_of_cell? w _ hw62001_4)).trans hw62001_4), ((HB.out.cell (World.block_lt_of_cell? w _ hw62002_0)).trans hw62002_0), ((HB.out.cell (World.block_lt_of_cell? w _ hw62002_1)).trans hw62002_1), ((HB.out.cell (World.block_lt_of_cell? w _ hw62002_2)).trans hw62002_2), ((HB.out.cell (World.block_lt_of_cell? w _ hw62002_3)).trans hw62002_3), ((HB.out.cell (World.block_lt_of_cell? w _ hw62002_4)).trans hw62002_4)⟩ (fun hHeld => ?_)
       clear hK K
       refine norm_ (a' := ?_) ?_ ?_
       rotate_left
       ·show Act.put _ (some 21) _ = _
        simp only [Act.put, List.setIfInBounds_toArray, List.set_cons_zero, List.set_cons_succ, i64_w, i32_w]
        rfl
       refine pure_ (i := 13) (N := some 6) (v := ?_) (a' := ?_) #[true, true, true, true, true, true, true, true, true, true, true, true, true, true] rfl rfl (any_of HT_.out (by kernel_rfl)) (fun _ _ _ h => h) (Or.inl ⟨by rfl, ?_⟩) ?_ ?_
       rotate_left
       ·intro w'
        go_simp
        with_reducible rfl
       rotate_left
       ·simp only [Act.put, List.setIfInBounds_toArray, List.set_cons_zero, List.set_cons_succ, i64_w, i32_w]
        rfl
       refine done_ (done_of HT_.out (by kernel_rfl)) ?_
       obtain ⟨Ao14, co14, eo14⟩ := Kd.N_slice HO_5.out
       subst eo14
       try go_wp2_with (first | ((with_reducible refine gate_builtin (b := .append) (xs := #[.tmp 22, .tmp 23]) rfl ?_); at_builtin; refine Kd.N_append_rows k49 (w0 := w) w.heap.size rfl (.tmp 22) (.tmp 23) 36 49 (.agg #[(.string ⟨#[]⟩), (.slice none 0 0), (.string ⟨#[]⟩)]) 56 rfl Tryd.underlying36 info49 rfl (by decide) (by omega) v62007 y62006 x5_1 _ _ _ (fun k_ => (w.heap.size ≤ k_)) (fun k_ => ((fun k_ => (w.heap.size ≤ k_))) k_ ∧ some k_ ≠ (v62007 : Value).ownBlock) rfl rfl ?aO ?aR (fun _ hk => hk) ?aF ?aB ?aS ?aL ?_; (case aR => exact (by skip; exact Kd.N_F (Kd.N_mono (ok' := (fun k_ => ((fun k_ => (w.heap.size ≤ k_))) k_ ∧ some k_ ≠ (v62007 : Value).ownBlock)) (HO_5.out) (fun k_ hk => ⟨hk.1.1, hk.2⟩)))); (case aB => exact (by repeat (first | (with_reducible first | exact HB.out | apply below_alloc | apply pw_below_drewN | apply below_drew1) | exact HB.out))); (case aF => exact (fun k_ hk => (Nat.le_trans (below_size (by repeat (first | (with_reducible first | exact HB.out | apply below_alloc | apply pw_below_drewN | apply below_drew1) | exact HB.out))) hk))); (case aO => exact (by (with_reducible repeat (first | apply Kd.N_alloc | apply Kd.N_drewN | apply Kd.N_drew)); exact Kd.N_mono HO62008.out (fun _ hk => hk.1))); (case aS => exact (below_size (by repeat (first | (with_reducible first | exact HB.out | apply below_alloc | apply pw_below_drewN | apply below_drew1) | exact HB.out)))); (case aL => have := LMc7.out; omega); intro v62010 w13 ho hb hg hat; rw [← Ny62009.out] at ho; have n0_ := Aside0.mk (Kd.N_afterv (ok := (fun k_ => (w.heap.size ≤ k_))) (by (with_reducible repeat (first | apply Kd.N_alloc | apply Kd.N_drewN | apply Kd.N_drew)); exact Kd.N_mono HO_5.out (fun _ hk => ⟨hk.1.1, hk.2⟩)) hg hat); have n1_ := Aside0.mk (hb); have n2_ := Aside0.mk (ho); clear HO_5; clear HB; clear HO62008; have HO_5 := n0_; have HB := n1_; have HO62011 := n2_; clear n0_ n1_ n2_; clear ho hb hg hat; have p62012 : 0 ≤ (x1_1 : Int) := of_decide_eq_true (by first | (with_reducible assumption) | assumption); have q62012 : x1_1 < (l0.length : Int) := of_decide_eq_true (by first | (with_reducible assumption) | assumption); obtain ⟨ad62012, A62012_1, c62012_1, A62012_3, c62012_3, A62012_4, c62012_4, e62012, hx62012_0, hx62012_1, hx62012_2, hx62012_3, hx62012_4, hl62012_1, hi62012_1, hl62012_3, hi62012_3, hl62012_4, hi62012_4⟩ := at_T44 HR0.out x1_1 p62012 q62012; obtain rfl : ad62001 = ad62012 := (by injection e62012); replace hx62012_0 := (HB.out.cell (World.block_lt_of_cell? w _ hx62012_0)).trans hx62012_0; replace hx62012_1 := (HB.out.cell (World.block_lt_of_cell? w _ hx62012_1)).trans hx62012_1; replace hx62012_2 := (HB.out.cell (World.block_lt_of_cell? w _ hx62012_2)).trans hx62012_2; replace hx62012_3 := (HB.out.cell (World.block_lt_of_cell? w _ hx62012_3)).trans hx62012_3; replace hx62012_4 := (HB.out.cell (World.block_lt_of_cell? w _ hx62012_4)).trans hx62012_4; have HR62012_1 := Aside0.mk hi62012_1; have HC62012_1 := Aside0.mk hl62012_1; clear hi62012_1 hl62012_1; have HR62012_3 := Aside0.mk hi62012_3; have HC62012_3 := Aside0.mk hl62012_3; clear hi62012_3 hl62012_3; have HR62012_4 := Aside0.mk hi62012_4; have HC62012_4 := Aside0.mk hl62012_4; clear hi62012_4 hl62012_4; replace p62012 := eq_true p62012; replace q62012 := eq_true q62012))
       go_roundg k1
       case measure => have := HK1.out; omega
       case rel => exact ⟨((rd_T44 l0 x1_1).f2), (y62009), (by first | rfl | (simp; done) | (simp [*]; done)), H', ⟨by have := HK1.out; omega⟩, ⟨by (with_reducible repeat (first | apply Kd.N_alloc | apply Kd.N_drewN | apply Kd.N_drew)); exact HO62011.out⟩, ⟨by repeat (first | (with_reducible first | exact HB.out | apply below_alloc | apply pw_below_drewN | apply below_drew1) | exact HB.out)⟩⟩
      ·rw [if_neg c7] at H
       exact absurd H (by simp)
     ·rw [if_neg c5] at H
      exact absurd H (by simp)
    ·rw [if_neg c4] at H
     exact absurd H (by simp)
   ·rw [if_neg c3] at H
    have c3b0 : decide (0 < x1_1) = false := decide_eq_false c3
    clear c3
    obtain rfl := Option.some.inj H
    go_wp2
    go_ret
    exact ⟨_, by first | rfl | (simp [errW_none, errW_some] <;> rfl) | (simp [*, errW_none, errW_some] <;> rfl), by (with_reducible repeat (first | apply Kd.N_alloc | apply Kd.N_drewN | apply Kd.N_drew)); exact HO_5.out, by repeat (first | (with_reducible first | exact HB.out | apply below_alloc | apply pw_below_drewN | apply below_drew1) | exact HB.out)⟩

end Go.Proofs.YtnalcjgefbelnaaDoor.Q
end
section
namespace Go.Proofs.YtnalcjgefbelnaaDoor.Q
open Go.RowKit Go.Proofs.YtnalcjgefbelnaaDoorW.PrintWords Go.Proofs.YtnalcjgefbelnaaDoorW.PrintLast Go.Proofs.YtnalcjgefbelnaaDoorW.PrintMore
set_option linter.unusedVariables false
set_option linter.unusedSimpArgs false

attribute [local go_sem] max2_int min2_int max_two min_two max_three min_three max_four min_four
/-! ### tinderref08_Path: function 24 -/
def tinderref08_Path.f (k : Nat) (l0 : List (S44)) (a1 : Int) : Option (ByteArray × Int) := (tinderref08_wrong.f k l0 a1).bind fun t25001 => (if t25001 = 0 then ((tinderref08_Steps.f k l0 a1).bind fun t25002 => ((tinderref07_Show.f k t25002).bind fun bt25005 => (some (bt25005.1, bt25005.2)))) else (some ((⟨#[]⟩ : ByteArray), t25001)))
set_option maxHeartbeats 8000000 in
set_option maxRecDepth 100000 in
theorem tinderref08_Path.calls (k : Nat) (A0 : Option Addr) (c0 : Nat) (l0 : List (S44)) (a1 : Int) (r1 : ByteArray) (r2 : Int) (w : World) (hr0 : Kd.C k44 w A0 l0.length l0) (hc0 : l0.length ≤ c0) (h : tinderref08_Path.f k l0 a1 = some (r1, r2)) :
  Calls Tryd.prog 24 #[.slice A0 l0.length c0, .int .i64 a1] w fun e w' => e = .returned (.tuple #[.string r1, .int .i64 r2]) ∧ Below w.heap.size w w' := by
 have HR0 := Aside0.mk hr0
 have HC0 := Aside0.mk hc0
 clear hr0 hc0
 have HB := Aside0.mk (Below.refl w.heap.size w)
 have H : ((tinderref08_wrong.f k l0 a1).bind fun t25001 => (if t25001 = 0 then ((tinderref08_Steps.f k l0 a1).bind fun t25002 => ((tinderref07_Show.f k t25002).bind fun bt25005 => (some (bt25005.1, bt25005.2)))) else (some ((⟨#[]⟩ : ByteArray), t25001)))) = some (r1, r2) := h
 clear h
 replace H := Option.bind_eq_some_iff.mp H
 obtain ⟨t25001, A30, H⟩ := H
 replace H : (if t25001 = 0 then ((tinderref08_Steps.f k l0 a1).bind fun t25002 => ((tinderref07_Show.f k t25002).bind fun bt25005 => (some (bt25005.1, bt25005.2)))) else (some ((⟨#[]⟩ : ByteArray), t25001))) = some (r1, r2) := H
 have A3 := Aside0.mk A30
 clear A30
 by_cases c4 : t25001 = 0
 ·rw [if_pos c4] at H
  have c4b0 : (t25001 == 0) = true := beq_iff_eq.mpr c4
  have c4b1 : (t25001 != 0) = false := bne_eq_false_iff_eq.mpr c4
  clear c4
  replace H := Option.bind_eq_some_iff.mp H
  obtain ⟨t25002, A50, H⟩ := H
  replace H : ((tinderref07_Show.f k t25002).bind fun bt25005 => (some (bt25005.1, bt25005.2))) = some (r1, r2) := H
  have A5 := Aside0.mk A50
  clear A50
  replace H := Option.bind_eq_some_iff.mp H
  obtain ⟨⟨t25005, t25006⟩, A60, H⟩ := H
  replace H : (some (t25005, t25006)) = some (r1, r2) := H
  have A6 := Aside0.mk A60
  clear A60
  simp only [Option.some.injEq, Prod.mk.injEq] at H
  obtain ⟨rfl, rfl⟩ := H
  go_enter Tryd.func24, Tryd.ntmps24
  go_wp2_with (first | ((with_reducible refine gate_callee (f := 54) rfl ?_); refine goesL_ (some 9) rfl rfl Tryd.func54 (by kernel_rfl) rfl #[.slice A0 l0.length c0, .int .i64 a1] rfl (by (try simp only [List.map_toArray, List.map_cons, List.map_nil]); first | done | rfl | (simp only [List.length_drop, List.length_take]; rfl)) ?_; (with_reducible refine (tinderref08_wrong.calls k _ _ l0 a1 t25001 _ ?side1 ?side2 A3.out).mono ?_); (case side1 => repeat (first | exact HR0.out | (with_reducible refine Kd.C_alloc ?_ _) | (with_reducible refine Kd.C_drewN ?_ _) | (with_reducible refine Kd.C_drew ?_))); (case side2 => exact HC0.out); rintro e w7 ⟨rfl, hb⟩; refine ⟨_, rfl, ?_⟩; have n0_ := Aside0.mk (below_step (by repeat (first | (with_reducible first | exact HB.out | apply below_alloc | apply pw_below_drewN | apply below_drew1) | exact HB.out)) hb); clear HB; have HB := n0_; clear n0_; (try clear hb); (try clear hb2); (try clear hk); (try clear hi)) | ((with_reducible refine gate_callee (f := 61) rfl ?_); refine goesL_ (some 15) rfl rfl Tryd.func61 (by kernel_rfl) rfl #[.slice A0 l0.length c0, .int .i64 a1] rfl (by (try simp only [List.map_toArray, List.map_cons, List.map_nil]); first | done | rfl | (simp only [List.length_drop, List.length_take]; rfl)) ?_; (with_reducible refine (tinderref08_Steps.calls k _ _ l0 a1 t25002 _ ?side1 ?side2 A5.out).mono ?_); (case side1 => repeat (first | exact (Kd.C_below HR0.out HB.out) | (with_reducible refine Kd.C_alloc ?_ _) | (with_reducible refine Kd.C_drewN ?_ _) | (with_reducible refine Kd.C_drew ?_))); (case side2 => exact HC0.out); rintro e w8 ⟨v25003, rfl, ho0, hb⟩; refine ⟨_, rfl, ?_⟩; have n0_ := Aside0.mk (Kd.N_lower (Kd.N_mono (ok' := fun k_ => True) ho0 (fun k_ hk_ => trivial)) (below_size (by repeat (first | (with_reducible first | exact HB.out | apply below_alloc | apply pw_below_drewN | apply below_drew1) | exact HB.out)))); have n1_ := Aside0.mk (below_step (by repeat (first | (with_reducible first | exact HB.out | apply below_alloc | apply pw_below_drewN | apply below_drew1) | exact HB.out)) hb); clear HB; have HO25004 := n0_; have HB := n1_; clear n0_ n1_; (try clear hb); (try clear hb2); (try clear hk); (try clear hi); (try clear ho0); obtain ⟨Ao9, co9, eo9⟩ := Kd.N_slice HO25004.out; subst eo9) | ((with_reducible refine gate_callee (f := 60) rfl ?_); refine goesL_ (some 16) rfl rfl Tryd.func60 (by kernel_rfl) rfl #[.slice Ao9 t25002.length co9] rfl (by (try simp only [List.map_toArray, List.map_cons, List.map_nil]); first | done | rfl | (simp only [List.length_drop, List.length_take]; rfl)) ?_; (with_reducible refine (tinderref07_Show.calls k _ _ t25002 t25005 t25006 _ ?side1 ?side2 A6.out).mono ?_); (case side1 => repeat (first | exact (Kd.N_reads' HO25004.out).2.2 | (with_reducible refine Kd.C_alloc ?_ _) | (with_reducible refine Kd.C_drewN ?_ _) | (with_reducible refine Kd.C_drew ?_))); (case side2 => exact (Kd.N_reads' HO25004.out).2.1); rintro e w10 ⟨rfl, hb⟩; refine ⟨_, rfl, ?_⟩; have n0_ := Aside0.mk (Kd.N_below (by (with_reducible repeat (first | apply Kd.N_alloc | apply Kd.N_drewN | apply Kd.N_drew)); exact HO25004.out) hb); have n1_ := Aside0.mk (below_step (by repeat (first | (with_reducible first | exact HB.out | apply below_alloc | apply pw_below_drewN | apply below_drew1) | exact HB.out)) hb); clear HO25004; clear HB; have HO25004 := n0_; have HB := n1_; clear n0_ n1_; (try clear hb); (try clear hb2); (try clear hk); (try clear hi)))
  go_ret2
  exact ⟨by first | rfl | (simp [errW_none, errW_some] <;> rfl) | (simp [*, errW_none, errW_some] <;> rfl), by repeat (first | (with_reducible first | exact HB.out | apply below_alloc | apply pw_below_drewN | apply below_drew1) | exact HB.out)⟩
 ·rw [if_neg c4] at H
  have c4b0 : (t25001 == 0) = false := beq_eq_false_iff_ne.mpr c4
  have c4b1 : (t25001 != 0) = true := bne_iff_ne.mpr c4
  simp only [Option.some.injEq, Prod.mk.injEq] at H
  obtain ⟨rfl, rfl⟩ := H
  go_enter Tryd.func24, Tryd.ntmps24
  go_wp2_with (first | ((with_reducible refine gate_callee (f := 54) rfl ?_); refine goesL_ (some 9) rfl rfl Tryd.func54 (by kernel_rfl) rfl #[.slice A0 l0.length c0, .int .i64 a1] rfl (by (try simp only [List.map_toArray, List.map_cons, List.map_nil]); first | done | rfl | (simp only [List.length_drop, List.length_take]; rfl)) ?_; (with_reducible refine (tinderref08_wrong.calls k _ _ l0 a1 t25001 _ ?side1 ?side2 A3.out).mono ?_); (case side1 => repeat (first | exact HR0.out | (with_reducible refine Kd.C_alloc ?_ _) | (with_reducible refine Kd.C_drewN ?_ _) | (with_reducible refine Kd.C_drew ?_))); (case side2 => exact HC0.out); rintro e w11 ⟨rfl, hb⟩; refine ⟨_, rfl, ?_⟩; have n0_ := Aside0.mk (below_step (by repeat (first | (with_reducible first | exact HB.out | apply below_alloc | apply pw_below_drewN | apply below_drew1) | exact HB.out)) hb); clear HB; have HB := n0_; clear n0_; (try clear hb); (try clear hb2); (try clear hk); (try clear hi)))
  go_ret2
  exact ⟨by first | rfl | (simp [errW_none, errW_some] <;> rfl) | (simp [*, errW_none, errW_some] <;> rfl), by repeat (first | (with_reducible first | exact HB.out | apply below_alloc | apply pw_below_drewN | apply below_drew1) | exact HB.out)⟩

end Go.Proofs.YtnalcjgefbelnaaDoor.Q
end
section
set_option linter.unusedSimpArgs false
set_option linter.unusedVariables false
namespace Go.Proofs.YtnalcjgefbelnaaDoor.Q
open Go.RowKit Go.Proofs.YtnalcjgefbelnaaDoorW.PrintWords Go.Proofs.YtnalcjgefbelnaaDoorW.PrintLast
theorem steps_go {t : List S44} (hF : treeF t = true) (hG : GoodT t) : ∀ (m k : Nat) (n : Int) (acc : List S49), n.toNat ≤ m → n < t.length → acc.length + m ≤ 100 → m + 1 ≤ k → tinderref08_Steps.l0 k t n acc = some ((upF t n.toNat n).reverse ++ acc)
 | m, k, n, acc, hm, hn, ha, hk => by
  obtain ⟨k, rfl⟩ : ∃ j, k = j + 1 := ⟨k - 1, by omega⟩
  rw [tinderref08_Steps.l0]
  by_cases h0 : n > 0
  ·obtain ⟨m, rfl⟩ : ∃ j, m = j + 1 := ⟨m - 1, by omega⟩
   have hu := form_up hF n h0 hn
   rw [if_pos h0, if_pos (by omega), if_pos hn, copy3_eq _ (hG.2 _ (rd44_mem t n (by omega) hn)).1, Option.bind_some, Option.bind_some, if_pos (by simp only [List.length_singleton]; omega), steps_go hF hG m k (rd_T44 t n).f2 _ (by omega) (by omega) (by simp only [List.length_append, List.length_singleton]; omega) (by omega), upF_step hF n h0 hn, List.reverse_cons, List.append_assoc]
  ·rw [if_neg h0, upF_le t _ n (by omega)]
   rfl
 termination_by m => m
theorem steps_eq {t : List S44} (hF : treeF t = true) (hG : GoodT t) (n : Int) (hn : n < t.length) (k : Nat) (hk : 100 ≤ k) : tinderref08_Steps.f k t n = some (upF t n.toNat n).reverse := by
 have hl := form_len hF
 unfold tinderref08_Steps.f
 rw [steps_go hF hG 32 k n [] (by omega) hn (by decide) (by omega), List.append_nil]
/-- Steps of a formed tree: short names, few numbers, no words behind. -/
def StepS (x : S49) : Prop := x.f0.size ≤ 31 ∧ x.f1.length ≤ 4 ∧ x.f2 = ⟨#[]⟩ ∧ U32L x.f1
theorem up_short {t : List S44} (hF : treeF t = true) (hW : ∀ x ∈ t, U32L x.f1) : ∀ (m : Nat) (n : Int), n.toNat ≤ m → n < t.length → ∀ x ∈ upF t n.toNat n, StepS x
 | m, n, hm, hn, x, hx => by
  by_cases h0 : 0 < n
  ·obtain ⟨m, rfl⟩ : ∃ j, m = j + 1 := ⟨m - 1, by omega⟩
   have hu := form_up hF n h0 hn
   rw [upF_step hF n h0 hn] at hx
   rcases List.mem_cons.1 hx with hx | hx
   ·subst hx
    have hko := kid_ok hF n h0 hn
    unfold kidOk namedF at hko
    simp only [Bool.and_eq_true, Bool.not_eq_true', decide_eq_false_iff_not, decide_eq_true_eq] at hko
    exact ⟨hko.1.1.2, by have := hko.2.1; show (rd_T44 t n).f1.length ≤ 4; omega, rfl, hW _ (rd44_mem t n (by omega) hn)⟩
   ·exact up_short hF hW m (rd_T44 t n).f2 (by omega) (by omega) x hx
  ·rw [upF_le t _ n (by omega)] at hx
   exact absurd hx List.not_mem_nil
 termination_by m => m
theorem steps_wt : ∀ (l : List S49), (∀ x ∈ l, StepS x) → wtL l ≤ 40 * l.length
 | [], _ => by unfold wtL; simp
 | x :: r, h => by
  have h1 := steps_wt r (fun y hy => h y (List.mem_cons_of_mem _ hy))
  obtain ⟨a1, a2, a3, -⟩ := h x List.mem_cons_self
  have e : wtL (x :: r) = wt81 x + 1 + wtL r := by unfold wtL; rw [List.map_cons, List.sum_cons]
  have e2 : wt81 x = x.f0.size + (x.f1.length + 0) := by unfold wt81; rw [sum_ones, a3]; rfl
  rw [e, e2, List.length_cons]
  omega
theorem path_facts {t : List S44} (hF : treeF t = true) (hW : ∀ x ∈ t, U32L x.f1) (n : Int) (hn : n < t.length) : (∀ x ∈ (upF t n.toNat n).reverse, StepS x) ∧ (upF t n.toNat n).reverse.length ≤ 32 ∧ wtL (upF t n.toNat n).reverse ≤ 1048576 ∧ pathOk (upF t n.toNat n).reverse = true := by
 have hl := form_len hF
 have h1 : ∀ x ∈ (upF t n.toNat n).reverse, StepS x := fun x hx => up_short hF hW n.toNat n (Nat.le_refl _) hn x (List.mem_reverse.1 hx)
 have h2 : (upF t n.toNat n).reverse.length ≤ 32 := by
  rw [List.length_reverse]
  have := upF_len t n.toNat n
  omega
 have h3 := steps_wt _ h1
 have h4 := pathL_len (upF t n.toNat n).reverse (fun x hx => (h1 x hx).2.2.2)
 refine ⟨h1, h2, by omega, ?_⟩
 unfold pathOk
 rw [Bool.and_eq_true]
 refine ⟨List.all_eq_true.2 fun x hx => List.all_eq_true.2 fun u hu => decide_eq_true ((h1 x hx).2.2.2 u hu), decide_eq_true (by omega)⟩
theorem path_ok8 {t : List S44} (hW : ∀ x ∈ t, U32L x.f1) {n : Int} (he : tree_check.f t n = some 0) : tree_Path.f t n = some (showP (upF t n.toNat n).reverse) := by
 have hF := check_form he
 obtain ⟨h0, h1⟩ := check_in he
 unfold tree_Path.f
 rw [he, Option.bind_some, if_pos rfl, if_pos (path_facts hF hW n h1).2.2.2]
theorem path_bad8 {t : List S44} {n e : Int} (he : tree_check.f t n = some e) (h0 : e ≠ 0) : tree_Path.f t n = some (⟨#[]⟩, e) := by
 unfold tree_Path.f
 rw [he, Option.bind_some, if_neg h0]
theorem refPath_eq {t : List S44} (h : GoodT t) (hW : ∀ x ∈ t, U32L x.f1) (n : Int) (k : Nat) (hk : 10000000000000000000000000000000 ≤ k) : tinderref08_Path.f k t n = tree_Path.f t n := by
 obtain ⟨e, he⟩ := check_some t n
 unfold tinderref08_Path.f
 rw [wrong_eq h n k (by omega), he, Option.bind_some]
 by_cases h0 : e = 0
 ·subst h0
  obtain ⟨a0, a1⟩ := check_in he
  have hF := check_form he
  obtain ⟨p1, p2, p3, p4⟩ := path_facts hF hW n a1
  rw [path_ok8 hW he, if_pos rfl, steps_eq hF h n a1 k (by omega), Option.bind_some, refShow_ge k (by omega) _ (fun x hx => (p1 x hx).2.2.2) p3]
  rfl
 ·rw [path_bad8 he h0, if_neg h0]
theorem tree_u32 {z : List S44} (h : TreeG z) : ∀ x ∈ z, U32L x.f1 := fun x hx b hb => by
 have := (h.2 x hx).2.1.2 b hb
 simp only [Lit.wf, Bool.and_eq_true, decide_eq_true_eq, show IntKind.u32.min = 0 from rfl, show IntKind.u32.max = 4294967295 from rfl] at this
 omega
end Go.Proofs.YtnalcjgefbelnaaDoor.Q
end
section
set_option linter.unusedSimpArgs false
set_option linter.unusedVariables false
namespace Go.Proofs.YtnalcjgefbelnaaDoor.Q
open Go.RowKit Go.Proofs.YtnalcjgefbelnaaDoorW.PrintWords Go.Proofs.YtnalcjgefbelnaaDoorW.PrintLast Go.Proofs.YtnalcjgefbelnaaDoorW.PrintMore
attribute [local go_sem] max2_int min2_int max_two min_two max_three min_three max_four min_four
theorem root_ok {t : List S44} (hF : treeF t = true) : rootOk (rd_T44 t 0) = true := by
 have hl := form_len hF
 have h1 := form_node hF 0 (by omega)
 unfold nodeOk at h1
 rw [show (((0 : Nat) : Int) == 0) = true from rfl, if_pos rfl] at h1
 simp only [Bool.and_eq_true] at h1
 exact h1.2
theorem root_up {t : List S44} (hF : treeF t = true) : (rd_T44 t 0).f2 = -1 := by
 have h := root_ok hF
 unfold rootOk at h
 simp only [Bool.and_eq_true, beq_iff_eq] at h
 exact h.2.2
theorem idxP_first {α : Type} (P : α → Bool) (z : α) (l : List α) (b : Int) (h0 : 0 ≤ b) (h1 : b < l.length) (hb : P (l.getD b.toNat z) = true) (hf : ∀ j : Nat, (j : Int) < b → P (l.getD j z) = false) : idxP P l = b := by
 rw [idxP_here P z l b.toNat (fun j hj => hf j (by omega)) (by omega) hb]
 omega
theorem idxP_none {α : Type} (P : α → Bool) (z : α) (l : List α) (hf : ∀ j : Nat, j < l.length → P (l.getD j z) = false) : idxP P l < 0 := by
 have h := idxP_any P l
 have h2 : l.any P = false := by
  cases ha : l.any P with
  | false => rfl
  | true =>
   obtain ⟨x, hx, hp⟩ := List.any_eq_true.1 ha
   obtain ⟨j, hj, rfl⟩ := List.mem_iff_getElem.1 hx
   have := hf j hj
   rw [List.getD_eq_getElem?_getD, List.getElem?_eq_getElem hj, Option.getD_some, hp] at this
   cases this
 rw [h2] at h
 have := of_decide_eq_false h
 omega
/-- b: the place found so far, above place j. -/
def inv22 (P : S44 → Bool) (t : List S44) (b j : Int) : Prop := (b < 0 → ∀ q : Nat, j < q → q < t.length → P (t.getD q z44) = false) ∧ (0 ≤ b → j < b ∧ b < t.length ∧ P (t.getD b.toNat z44) = true ∧ ∀ q : Nat, j < q → (q : Int) < b → P (t.getD q z44) = false)
theorem inv_hit {P : S44 → Bool} {t : List S44} {b j : Int} (h0 : 0 ≤ j ∧ j < t.length) (h1 : 0 < j) (h : inv22 P t b j) (hx : P (rd_T44 t j) = true) : inv22 P t j (j - 1) :=
 ⟨fun hb => absurd hb (by omega), fun hb => ⟨by omega, h0.2, hx, fun q h1 h2 => absurd h2 (by omega)⟩⟩
theorem inv_miss {P : S44 → Bool} {t : List S44} {b j : Int} (h : inv22 P t b j) (hx : P (rd_T44 t j) = false) : inv22 P t b (j - 1) := by
 refine ⟨fun hb q h1 h2 => ?_, fun hb => ⟨by have := (h.2 hb).1; omega, (h.2 hb).2.1, (h.2 hb).2.2.1, fun q h1 h2 => ?_⟩⟩
 ·by_cases he : (q : Int) = j
  ·rw [show q = j.toNat by omega]
   exact hx
  ·exact h.1 hb q (by omega) h2
 ·by_cases he : (q : Int) = j
  ·rw [show q = j.toNat by omega]
   exact hx
  ·exact (h.2 hb).2.2.2 q (by omega) h2
theorem inv_start {P : S44 → Bool} {t : List S44} : inv22 P t (-1) ((t.length : Int) - 1) := ⟨fun _ q h1 h2 => absurd h1 (by omega), fun h => absurd h (by decide)⟩
theorem inv_none {P : S44 → Bool} {t : List S44} {b : Int} (h : inv22 P t b 0) (hb : b < 0) (h0 : P (rd_T44 t 0) = false) : idxP P t < 0 := idxP_none P z44 t (fun j hj => by
 by_cases hj0 : j = 0
 ·rw [hj0]; exact h0
 ·exact h.1 hb j (by omega) hj)
theorem inv_found {P : S44 → Bool} {t : List S44} {b : Int} (h : inv22 P t b 0) (hb : 0 ≤ b) (h0 : P (rd_T44 t 0) = false) : idxP P t = b := idxP_first P z44 t b hb (h.2 hb).2.1 (h.2 hb).2.2.1 (fun j hj => by
 by_cases hj0 : j = 0
 ·rw [hj0]; exact h0
 ·exact (h.2 hb).2.2.2 j (by omega) hj)
def goodNB (x : S44) : Bool := decide (x.f1.length < 35184372088832) && (decide (x.f4.length < 35184372088832) && (decide (x.f3.length < 3518437208883) && x.f3.all fun p => decide (p.f1.length < 140737488355328)))
def goodTB (t : List S44) : Bool := decide (t.length < 1466015503701) && t.all goodNB
theorem goodTB_iff {t : List S44} : goodTB t = true ↔ GoodT t := by
 simp only [goodTB, goodNB, GoodT, GoodN, Bool.and_eq_true, decide_eq_true_eq, List.all_eq_true]
def tinderref08_Find.f (l0 : List S44) (l1 : List S49) : Option (Int × Int) := if goodTB l0 = true ∧ l1.length ≤ 1000000000000000 then tree_Find.f l0 l1 else none
set_option maxHeartbeats 16000000 in
set_option maxRecDepth 100000 in
theorem tinderref08_Find.calls (A0 : Option Addr) (c0 : Nat) (l0 : List S44) (A1 : Option Addr) (c1 : Nat) (l1 : List S49) (r1 r2 : Int) (w : World) (hr0 : Kd.C k44 w A0 l0.length l0) (hc0 : l0.length ≤ c0) (hr1 : Kd.C k49 w A1 l1.length l1) (hc1 : l1.length ≤ c1) (h : tinderref08_Find.f l0 l1 = some (r1, r2)) :
  Calls Tryd.prog 22 #[.slice A0 l0.length c0, .slice A1 l1.length c1] w fun e w' => e = .returned (.tuple #[.int .i64 r1, .int .i64 r2]) ∧ Below w.heap.size w w' := by
 have mixed : Tryd.prog.follows Departure.mixedOrders = true := by kernel_rfl
 have hu44 := Tryd.underlying44
 have hu49 := Tryd.underlying49
 unfold tinderref08_Find.f at h
 split at h
 case isFalse => cases h
 rename_i hs
 have hG := goodTB_iff.1 hs.1
 have HL1 := Aside0.mk hs.2
 have HFM := Aside0.mk (tinderref08_Formed.calls 1000000000000000000000000000000 A0 c0 l0 (treeF l0) w hr0 hc0 (refFormed_good hG _ (Nat.le_refl _)))
 have HC0 := Aside0.mk hr0
 have HC1 := Aside0.mk hr1
 have HG := Aside0.mk hG
 unfold tree_Find.f at h
 cases hb : treeF l0
 ·rw [if_neg (by rw [hb]; decide)] at h
  simp only [Option.some.injEq, Prod.mk.injEq] at h
  obtain ⟨rfl, rfl⟩ := h
  rw [hb] at HFM
  clear hr0 hc0 hr1 hc1 hb hs hG
  go_enter Tryd.func22, Tryd.ntmps22
  go_wp2_with (go_at_call 13; refine HFM.out.mono ?_; rintro e w1 ⟨rfl, hb⟩; have HB := Aside0.mk hb; clear hb)
  go_ret2
  exact ⟨rfl, HB.out⟩
 ·rw [if_pos hb] at h
  have HR := Aside0.mk (Option.some.inj h)
  rw [hb] at HFM
  have HLN := Aside0.mk (form_len hb)
  have HRU := Aside0.mk (root_up hb)
  have hw0 : IntKind.i64.wrap ((l0.length : Int) - 1) = (l0.length : Int) - 1 := (i64_w _).trans (by unfold wrap64; have := HLN.out; omega)
  have hw00 : wrap64 ((l0.length : Int) - 1) = (l0.length : Int) - 1 := by unfold wrap64; have := HLN.out; omega
  clear hr0 hc0 hr1 hc1 hb h hs hG
  go_enter Tryd.func22, Tryd.ntmps22
  go_wp2_with (go_at_call 13; refine HFM.out.mono ?_; rintro e w1 ⟨rfl, hb⟩; have HB := Aside0.mk hb; clear hb)
  go_loopg [6, 7] l1.length (fun kq v6 v7 w' => ∃ (i : Nat) (p : Int), v6 = .int .i64 p ∧ v7 = .int .i64 i ∧ Aside0 (i + kq = l1.length) ∧ Aside0 (0 ≤ p) ∧ Aside0 (findF l0 (l1.drop i) p = (r1, r2)) ∧ Aside0 (Below w.heap.size w w'))
  case atStart => exact ⟨0, 0, rfl, rfl, ⟨by omega⟩, ⟨Int.le_refl _⟩, HR, HB⟩
  case round =>
   obtain ⟨i, p, rfl, rfl, HI, HP, HQ, HB⟩ := hrel
   rename World => wa
   cases gk with
   | zero =>
    have hlt : decide ((i : Int) < (l1.length : Int)) = false := decide_eq_false (by have := HI.out; omega)
    have hltN : decide (i < l1.length) = false := decide_eq_false (by have := HI.out; omega)
    have hq := HQ.out
    rw [List.drop_eq_nil_of_le (by have := HI.out; omega), findF] at hq
    obtain ⟨rfl, rfl⟩ : p = r1 ∧ (0 : Int) = r2 := by simpa using hq
    clear hq
    go_wp2
    go_ret2
    exact ⟨rfl, HB.out⟩
   | succ k1 =>
    have hlt : decide ((i : Int) < (l1.length : Int)) = true := decide_eq_true (by have := HI.out; omega)
    have hltN : decide (i < l1.length) = true := decide_eq_true (by have := HI.out; omega)
    have hwi : IntKind.i64.wrap ((i : Int) + 1) = ((i + 1 : Nat) : Int) := (i64_w _).trans (by unfold wrap64; have := HI.out; have := HL1.out; omega)
    have hwi2 : wrap64 ((i : Int) + 1) = ((i + 1 : Nat) : Int) := by unfold wrap64; have := HI.out; have := HL1.out; omega
    obtain ⟨adl, B1, b1, eA, hl0, hl1, -, hkl, hgl⟩ := at_T49 (Kd.C_below HC1.out HB.out) (i : Int) (by omega) (by have := HI.out; omega)
    cases eA
    rw [Int.toNat_natCast] at hl0 hl1
    have hq := HQ.out
    rw [find_drop l0 l1 i (by have := HI.out; omega) p] at hq
    have HE := Aside0.mk (show rd_T49 l1 (i : Int) = l1.getD i z49 from rfl)
    rw [← HE.out] at hq
    have q3 : (0 ≤ (i : Int)) = True := eq_true (by omega)
    have q4 : ((i : Int) < (l1.length : Int)) = True := eq_true (by have := HI.out; omega)
    have q5 : (i < l1.length) = True := eq_true (by have := HI.out; omega)
    generalize (rd_T49 l1 (i : Int)).f0 = sf0 at *
    generalize (rd_T49 l1 (i : Int)).f1 = U at *
    have H0 := Aside0.mk (show isF p sf0 U (rd_T44 l0 0) = false by
     unfold isF
     rw [HRU.out, beq_eq_false_iff_ne.2 (show (-1 : Int) ≠ p by have := HP.out; omega)]
     rfl)
    have HQ2 := Aside0.mk hq
    have HKL := Aside0.mk hkl
    have HGL := Aside0.mk hgl
    have HL0 := Aside0.mk hl0
    have HL1c := Aside0.mk hl1
    clear hq hkl hgl hl0 hl1
    go_wp2
    go_loopg [8, 9] l0.length (fun kq v8 v9 w' => ∃ (b j : Int), v8 = .int .i64 b ∧ v9 = .int .i64 j ∧ Aside0 (j.toNat ≤ kq) ∧ Aside0 (0 ≤ j ∧ j < l0.length) ∧ Aside0 (inv22 (isF p sf0 U) l0 b j) ∧ Aside0 (Below wa.heap.size wa w'))
    case atStart => exact ⟨-1, (l0.length : Int) - 1, rfl, by first | rfl | rw [hw0] | rw [hw00], ⟨by omega⟩, ⟨by have := HLN.out; omega⟩, ⟨inv_start⟩, ⟨Below.refl _ _⟩⟩
    case round =>
     obtain ⟨b, j, rfl, rfl, JK, JR, JV, JB⟩ := hrel
     rename World => wj
     by_cases hpos : 0 < j
     ·obtain ⟨k2, rfl⟩ : ∃ k, gk = k + 1 := ⟨gk - 1, by have := JK.out; omega⟩
      have dpos : decide (0 < j) = true := decide_eq_true hpos
      have JP := Aside0.mk hpos
      have hwm : IntKind.i64.wrap (j - 1) = j - 1 := (i64_w _).trans (by unfold wrap64; have := JR.out; have := HLN.out; omega)
      have hwm2 : wrap64 (j - 1) = j - 1 := by unfold wrap64; have := JR.out; have := HLN.out; omega
      have hr := JR.out
      obtain ⟨adj, E1, e1, E3, e3, E4, e4, eB, hj0, hj1, hj2, -, -, hkj, hgj, -, -, -, -⟩ := at_T44 (Kd.C_below (Kd.C_below HC0.out HB.out) JB.out) j hr.1 hr.2
      cases eB
      have q1 : (0 ≤ j) = True := eq_true hr.1
      have q2 : (j < (l0.length : Int)) = True := eq_true hr.2
      have hV := (HG.out.2 _ (rd44_mem l0 j hr.1 hr.2)).1
      have hl0 := (JB.out.cell (World.block_lt_of_cell? _ _ HL0.out)).trans HL0.out
      have hl1 := (JB.out.cell (World.block_lt_of_cell? _ _ HL1c.out)).trans HL1c.out
      have HX := Aside0.mk (show isF p sf0 U (rd_T44 l0 j) = (((rd_T44 l0 j).f2 == p) && (((rd_T44 l0 j).f0.toList == sf0.toList) && (((U.length : Int) == 0) || decide ((rd_T44 l0 j).f1 = U)))) from rfl)
      generalize (rd_T44 l0 j).f2 = xj2 at *
      generalize (rd_T44 l0 j).f0 = xj0 at *
      generalize (rd_T44 l0 j).f1 = V at *
      have HSM := Aside0.mk (fun (W : World) (hb : Below wj.heap.size wj W) => tinderref03_Same.calls 35184372088833 E1 e1 V B1 b1 U (decide (V = U)) W (Kd.C_below hgj hb) hkj (Kd.C_below (Kd.C_below HGL.out JB.out) hb) HKL.out (same3_eq V U (by omega) _ (by omega)))
      clear hpos hr hkj hgj hV
      cases b1_ : (xj2 == p)
      ·rw [b1_, Bool.false_and] at HX
       go_wp2
       go_quiet (fail)
       clear hj2 hj0 hl0 hl1 hj1
       go_wp2
       go_roundg k2
       case measure => omega
       case rel => exact ⟨b, j - 1, rfl, by first | rfl | rw [hwm2] | rw [hwm], ⟨by have := JK.out; omega⟩, ⟨by have := JR.out; have := JP.out; omega⟩, ⟨inv_miss JV.out HX.out⟩, ⟨by first | exact below_step JB.out hHeld.2.2.2.2.2 | exact pw_below_drewN JB.out _⟩⟩
      ·cases b2_ : (xj0.toList == sf0.toList)
       ·rw [b1_, b2_, Bool.true_and, Bool.false_and] at HX
        go_wp2
        go_quiet (fail)
        clear hj2 hj0 hl0 hl1 hj1
        go_wp2
        go_roundg k2
        case measure => omega
        case rel => exact ⟨b, j - 1, rfl, by first | rfl | rw [hwm2] | rw [hwm], ⟨by have := JK.out; omega⟩, ⟨by have := JR.out; have := JP.out; omega⟩, ⟨inv_miss JV.out HX.out⟩, ⟨by first | exact below_step JB.out hHeld.2.2.2.2.2 | exact pw_below_drewN JB.out _⟩⟩
       ·cases b3_ : ((U.length : Int) == 0)
        ·cases b4_ : decide (V = U)
         ·rw [b1_, b2_, b3_, b4_] at HX
          rw [b4_] at HSM
          go_wp2
          refine start_ (n := 42) (S := fun w' => w'.cell? ⟨(adj.add (j.toNat * 5)).block, (adj.add (j.toNat * 5)).off + 2, none⟩ = some (.int .i64 xj2) ∧ w'.cell? (adj.add (j.toNat * 5)) = some (.string xj0) ∧ w'.cell? (adl.add (i * 3)) = some (.string sf0) ∧ w'.cell? ⟨(adl.add (i * 3)).block, (adl.add (i * 3)).off + 1, none⟩ = some (.slice B1 U.length b1) ∧ w'.cell? ⟨(adj.add (j.toNat * 5)).block, (adj.add (j.toNat * 5)).off + 1, none⟩ = some (.slice E1 V.length e1) ∧ Below wj.heap.size wj w') (ds := []) #[false, false, false, false, false, false, false, false, false, false, false, false, false, false, false, false, false, false, false, false, false, false, false, false, false, false, false, false, false, false, false, false, false, false, false, false, false, false, false, false, false, false] (by kernel_rfl) rfl rfl ⟨hj2, hj0, hl0, hl1, hj1, below_drew1 (Below.refl wj.heap.size wj)⟩ (fun hHeld => ?_)
          refine pure_ (i := 0) (N := some 26) (v := ?_) (a' := ?_) #[true, false, false, false, false, false, false, false, false, false, false, false, false, false, false, false, false, false, false, false, false, false, false, false, false, false, false, false, false, false, false, false, false, false, false, false, false, false, false, false, false, false] rfl rfl (by kernel_rfl) (fun _ _ _ h => h) (Or.inl ⟨by rfl, ?_⟩) ?_ ?_
          rotate_left
          ·intro w'
           go_simp
           with_reducible rfl
          rotate_left
          ·simp only [Act.put, List.setIfInBounds_toArray, List.set_cons_zero, List.set_cons_succ]
           rfl
          refine pure_ (i := 1) (N := some 27) (v := ?_) (a' := ?_) #[true, true, false, false, false, false, false, false, false, false, false, false, false, false, false, false, false, false, false, false, false, false, false, false, false, false, false, false, false, false, false, false, false, false, false, false, false, false, false, false, false, false] rfl rfl (by kernel_rfl) (fun _ _ _ h => h) (Or.inl ⟨by rfl, ?_⟩) ?_ ?_
          rotate_left
          ·intro w'
           go_simp
           with_reducible rfl
          rotate_left
          ·simp only [Act.put, List.setIfInBounds_toArray, List.set_cons_zero, List.set_cons_succ]
           rfl
          refine pure_ (i := 2) (N := some 28) (v := ?_) (a' := ?_) #[true, true, true, false, false, false, false, false, false, false, false, false, false, false, false, false, false, false, false, false, false, false, false, false, false, false, false, false, false, false, false, false, false, false, false, false, false, false, false, false, false, false] rfl rfl (by kernel_rfl) (fun _ _ _ h => h) (Or.inl ⟨by rfl, ?_⟩) ?_ ?_
          rotate_left
          ·intro w'
           go_simp
           with_reducible rfl
          rotate_left
          ·simp only [Act.put, List.setIfInBounds_toArray, List.set_cons_zero, List.set_cons_succ]
           rfl
          refine pure_ (i := 3) (N := some 29) (v := ?_) (a' := ?_) #[true, true, true, true, false, false, false, false, false, false, false, false, false, false, false, false, false, false, false, false, false, false, false, false, false, false, false, false, false, false, false, false, false, false, false, false, false, false, false, false, false, false] rfl rfl (by kernel_rfl) (fun _ _ _ h => h) (Or.inl ⟨by rfl, ?_⟩) ?_ ?_
          rotate_left
          ·intro w'
           go_simp
           with_reducible rfl
          rotate_left
          ·simp only [Act.put, List.setIfInBounds_toArray, List.set_cons_zero, List.set_cons_succ]
           rfl
          refine pure_ (i := 5) (N := some 31) (v := ?_) (a' := ?_) #[true, true, true, true, false, true, false, false, false, false, false, false, false, false, false, false, false, false, false, false, false, false, false, false, false, false, false, false, false, false, false, false, false, false, false, false, false, false, false, false, false, false] rfl rfl (by kernel_rfl) (fun _ _ _ h => h) (Or.inl ⟨by rfl, ?_⟩) ?_ ?_
          rotate_left
          ·intro w'
           go_simp
           with_reducible rfl
          rotate_left
          ·simp only [Act.put, List.setIfInBounds_toArray, List.set_cons_zero, List.set_cons_succ]
           rfl
          refine take_ (i := 4) (N := some 30) (v := (.int .i64 xj2)) (a' := ?_) #[true, true, true, true, true, true, false, false, false, false, false, false, false, false, false, false, false, false, false, false, false, false, false, false, false, false, false, false, false, false, false, false, false, false, false, false, false, false, false, false, false, false] rfl rfl (by kernel_rfl) (fun _ _ _ h => h) (Or.inl ⟨by rfl, ?_⟩) hHeld ?_ ?_
          rotate_left
          rotate_left
          ·simp only [Act.put, List.setIfInBounds_toArray, List.set_cons_zero, List.set_cons_succ]
           rfl
          rotate_left
          ·rintro w' ⟨s0, s1, s2, s3, s4, s5⟩
           go_simp
          refine pure_ (i := 6) (N := some 32) (v := ?_) (a' := ?_) #[true, true, true, true, true, true, true, false, false, false, false, false, false, false, false, false, false, false, false, false, false, false, false, false, false, false, false, false, false, false, false, false, false, false, false, false, false, false, false, false, false, false] rfl rfl (by kernel_rfl) (fun _ _ _ h => h) (Or.inl ⟨by rfl, ?_⟩) ?_ ?_
          rotate_left
          ·intro w'
           go_simp
           with_reducible rfl
          rotate_left
          ·simp only [Act.put, List.setIfInBounds_toArray, List.set_cons_zero, List.set_cons_succ]
           rfl
          refine pure_ (i := 7) (N := some 33) (v := ?_) (a' := ?_) #[true, true, true, true, true, true, true, true, false, false, false, false, false, false, false, false, false, false, false, false, false, false, false, false, false, false, false, false, false, false, false, false, false, false, false, false, false, false, false, false, false, false] rfl rfl (by kernel_rfl) (fun _ _ _ h => h) (Or.inl ⟨by rfl, ?_⟩) ?_ ?_
          rotate_left
          ·intro w'
           go_simp
           with_reducible rfl
          rotate_left
          ·simp only [Act.put, List.setIfInBounds_toArray, List.set_cons_zero, List.set_cons_succ]
           rfl
          refine pure_ (i := 8) (N := some 34) (v := ?_) (a' := ?_) #[true, true, true, true, true, true, true, true, true, false, false, false, false, false, false, false, false, false, false, false, false, false, false, false, false, false, false, false, false, false, false, false, false, false, false, false, false, false, false, false, false, false] rfl rfl (by kernel_rfl) (fun _ _ _ h => h) (Or.inl ⟨by rfl, ?_⟩) ?_ ?_
          rotate_left
          ·intro w'
           go_simp
           with_reducible rfl
          rotate_left
          ·simp only [Act.put, List.setIfInBounds_toArray, List.set_cons_zero, List.set_cons_succ]
           rfl
          refine pure_ (i := 9) (N := some 35) (v := ?_) (a' := ?_) #[true, true, true, true, true, true, true, true, true, true, false, false, false, false, false, false, false, false, false, false, false, false, false, false, false, false, false, false, false, false, false, false, false, false, false, false, false, false, false, false, false, false] rfl rfl (by kernel_rfl) (fun _ _ _ h => h) (Or.inl ⟨by rfl, ?_⟩) ?_ ?_
          rotate_left
          ·intro w'
           go_simp
           with_reducible rfl
          rotate_left
          ·simp only [Act.put, List.setIfInBounds_toArray, List.set_cons_zero, List.set_cons_succ]
           rfl
          refine pure_ (i := 10) (N := some 36) (v := ?_) (a' := ?_) #[true, true, true, true, true, true, true, true, true, true, true, false, false, false, false, false, false, false, false, false, false, false, false, false, false, false, false, false, false, false, false, false, false, false, false, false, false, false, false, false, false, false] rfl rfl (by kernel_rfl) (fun _ _ _ h => h) (Or.inl ⟨by rfl, ?_⟩) ?_ ?_
          rotate_left
          ·intro w'
           go_simp
           with_reducible rfl
          rotate_left
          ·simp only [Act.put, List.setIfInBounds_toArray, List.set_cons_zero, List.set_cons_succ]
           rfl
          refine pure_ (i := 11) (N := some 37) (v := ?_) (a' := ?_) #[true, true, true, true, true, true, true, true, true, true, true, true, false, false, false, false, false, false, false, false, false, false, false, false, false, false, false, false, false, false, false, false, false, false, false, false, false, false, false, false, false, false] rfl rfl (by kernel_rfl) (fun _ _ _ h => h) (Or.inl ⟨by rfl, ?_⟩) ?_ ?_
          rotate_left
          ·intro w'
           go_simp
           with_reducible rfl
          rotate_left
          ·simp only [Act.put, List.setIfInBounds_toArray, List.set_cons_zero, List.set_cons_succ]
           rfl
          refine pure_ (i := 13) (N := some 39) (v := ?_) (a' := ?_) #[true, true, true, true, true, true, true, true, true, true, true, true, false, true, false, false, false, false, false, false, false, false, false, false, false, false, false, false, false, false, false, false, false, false, false, false, false, false, false, false, false, false] rfl rfl (by kernel_rfl) (fun _ _ _ h => h) (Or.inl ⟨by rfl, ?_⟩) ?_ ?_
          rotate_left
          ·intro w'
           go_simp
           with_reducible rfl
          rotate_left
          ·simp only [Act.put, List.setIfInBounds_toArray, List.set_cons_zero, List.set_cons_succ]
           rfl
          refine pure_ (i := 14) (N := some 40) (v := ?_) (a' := ?_) #[true, true, true, true, true, true, true, true, true, true, true, true, false, true, true, false, false, false, false, false, false, false, false, false, false, false, false, false, false, false, false, false, false, false, false, false, false, false, false, false, false, false] rfl rfl (by kernel_rfl) (fun _ _ _ h => h) (Or.inl ⟨by rfl, ?_⟩) ?_ ?_
          rotate_left
          ·intro w'
           go_simp
           with_reducible rfl
          rotate_left
          ·simp only [Act.put, List.setIfInBounds_toArray, List.set_cons_zero, List.set_cons_succ]
           rfl
          refine pure_ (i := 15) (N := some 41) (v := ?_) (a' := ?_) #[true, true, true, true, true, true, true, true, true, true, true, true, false, true, true, true, false, false, false, false, false, false, false, false, false, false, false, false, false, false, false, false, false, false, false, false, false, false, false, false, false, false] rfl rfl (by kernel_rfl) (fun _ _ _ h => h) (Or.inl ⟨by rfl, ?_⟩) ?_ ?_
          rotate_left
          ·intro w'
           go_simp
           with_reducible rfl
          rotate_left
          ·simp only [Act.put, List.setIfInBounds_toArray, List.set_cons_zero, List.set_cons_succ]
           rfl
          refine pure_ (i := 16) (N := some 42) (v := ?_) (a' := ?_) #[true, true, true, true, true, true, true, true, true, true, true, true, false, true, true, true, true, false, false, false, false, false, false, false, false, false, false, false, false, false, false, false, false, false, false, false, false, false, false, false, false, false] rfl rfl (by kernel_rfl) (fun _ _ _ h => h) (Or.inl ⟨by rfl, ?_⟩) ?_ ?_
          rotate_left
          ·intro w'
           go_simp
           with_reducible rfl
          rotate_left
          ·simp only [Act.put, List.setIfInBounds_toArray, List.set_cons_zero, List.set_cons_succ]
           rfl
          refine take_ (i := 12) (N := some 38) (v := (.string xj0)) (a' := ?_) #[true, true, true, true, true, true, true, true, true, true, true, true, true, true, true, true, true, false, false, false, false, false, false, false, false, false, false, false, false, false, false, false, false, false, false, false, false, false, false, false, false, false] rfl rfl (by kernel_rfl) (fun _ _ _ h => h) (Or.inl ⟨by rfl, ?_⟩) hHeld ?_ ?_
          rotate_left
          rotate_left
          ·simp only [Act.put, List.setIfInBounds_toArray, List.set_cons_zero, List.set_cons_succ]
           rfl
          rotate_left
          ·rintro w' ⟨s0, s1, s2, s3, s4, s5⟩
           go_simp
          refine take_ (i := 17) (N := some 43) (v := (.string sf0)) (a' := ?_) #[true, true, true, true, true, true, true, true, true, true, true, true, true, true, true, true, true, true, false, false, false, false, false, false, false, false, false, false, false, false, false, false, false, false, false, false, false, false, false, false, false, false] rfl rfl (by kernel_rfl) (fun _ _ _ h => h) (Or.inl ⟨by rfl, ?_⟩) hHeld ?_ ?_
          rotate_left
          rotate_left
          ·simp only [Act.put, List.setIfInBounds_toArray, List.set_cons_zero, List.set_cons_succ]
           rfl
          rotate_left
          ·rintro w' ⟨s0, s1, s2, s3, s4, s5⟩
           go_simp
          refine pure_ (i := 18) (N := some 44) (v := ?_) (a' := ?_) #[true, true, true, true, true, true, true, true, true, true, true, true, true, true, true, true, true, true, true, false, false, false, false, false, false, false, false, false, false, false, false, false, false, false, false, false, false, false, false, false, false, false] rfl rfl (by kernel_rfl) (fun _ _ _ h => h) (Or.inl ⟨by rfl, ?_⟩) ?_ ?_
          rotate_left
          ·intro w'
           go_simp
           with_reducible rfl
          rotate_left
          ·simp only [Act.put, List.setIfInBounds_toArray, List.set_cons_zero, List.set_cons_succ]
           rfl
          refine pure_ (i := 19) (N := some 45) (v := ?_) (a' := ?_) #[true, true, true, true, true, true, true, true, true, true, true, true, true, true, true, true, true, true, true, true, false, false, false, false, false, false, false, false, false, false, false, false, false, false, false, false, false, false, false, false, false, false] rfl rfl (by kernel_rfl) (fun _ _ _ h => h) (Or.inl ⟨by rfl, ?_⟩) ?_ ?_
          rotate_left
          ·intro w'
           go_simp
           with_reducible rfl
          rotate_left
          ·simp only [Act.put, List.setIfInBounds_toArray, List.set_cons_zero, List.set_cons_succ]
           rfl
          refine pure_ (i := 20) (N := some 46) (v := ?_) (a' := ?_) #[true, true, true, true, true, true, true, true, true, true, true, true, true, true, true, true, true, true, true, true, true, false, false, false, false, false, false, false, false, false, false, false, false, false, false, false, false, false, false, false, false, false] rfl rfl (by kernel_rfl) (fun _ _ _ h => h) (Or.inl ⟨by rfl, ?_⟩) ?_ ?_
          rotate_left
          ·intro w'
           go_simp
           with_reducible rfl
          rotate_left
          ·simp only [Act.put, List.setIfInBounds_toArray, List.set_cons_zero, List.set_cons_succ]
           rfl
          refine pure_ (i := 21) (N := some 47) (v := ?_) (a' := ?_) #[true, true, true, true, true, true, true, true, true, true, true, true, true, true, true, true, true, true, true, true, true, true, false, false, false, false, false, false, false, false, false, false, false, false, false, false, false, false, false, false, false, false] rfl rfl (by kernel_rfl) (fun _ _ _ h => h) (Or.inl ⟨by rfl, ?_⟩) ?_ ?_
          rotate_left
          ·intro w'
           go_simp
           with_reducible rfl
          rotate_left
          ·simp only [Act.put, List.setIfInBounds_toArray, List.set_cons_zero, List.set_cons_succ]
           rfl
          refine pure_ (i := 22) (N := some 48) (v := ?_) (a' := ?_) #[true, true, true, true, true, true, true, true, true, true, true, true, true, true, true, true, true, true, true, true, true, true, true, false, false, false, false, false, false, false, false, false, false, false, false, false, false, false, false, false, false, false] rfl rfl (by kernel_rfl) (fun _ _ _ h => h) (Or.inl ⟨by rfl, ?_⟩) ?_ ?_
          rotate_left
          ·intro w'
           go_simp
           with_reducible rfl
          rotate_left
          ·simp only [Act.put, List.setIfInBounds_toArray, List.set_cons_zero, List.set_cons_succ]
           rfl
          refine pure_ (i := 23) (N := some 49) (v := ?_) (a' := ?_) #[true, true, true, true, true, true, true, true, true, true, true, true, true, true, true, true, true, true, true, true, true, true, true, true, false, false, false, false, false, false, false, false, false, false, false, false, false, false, false, false, false, false] rfl rfl (by kernel_rfl) (fun _ _ _ h => h) (Or.inl ⟨by rfl, ?_⟩) ?_ ?_
          rotate_left
          ·intro w'
           go_simp
           with_reducible rfl
          rotate_left
          ·simp only [Act.put, List.setIfInBounds_toArray, List.set_cons_zero, List.set_cons_succ]
           rfl
          refine pure_ (i := 24) (N := some 50) (v := ?_) (a' := ?_) #[true, true, true, true, true, true, true, true, true, true, true, true, true, true, true, true, true, true, true, true, true, true, true, true, true, false, false, false, false, false, false, false, false, false, false, false, false, false, false, false, false, false] rfl rfl (by kernel_rfl) (fun _ _ _ h => h) (Or.inl ⟨by rfl, ?_⟩) ?_ ?_
          rotate_left
          ·intro w'
           go_simp
           with_reducible rfl
          rotate_left
          ·simp only [Act.put, List.setIfInBounds_toArray, List.set_cons_zero, List.set_cons_succ]
           rfl
          refine take_ (i := 25) (N := some 51) (v := (.slice B1 U.length b1)) (a' := ?_) #[true, true, true, true, true, true, true, true, true, true, true, true, true, true, true, true, true, true, true, true, true, true, true, true, true, true, false, false, false, false, false, false, false, false, false, false, false, false, false, false, false, false] rfl rfl (by kernel_rfl) (fun _ _ _ h => h) (Or.inl ⟨by rfl, ?_⟩) hHeld ?_ ?_
          rotate_left
          rotate_left
          ·simp only [Act.put, List.setIfInBounds_toArray, List.set_cons_zero, List.set_cons_succ]
           rfl
          rotate_left
          ·rintro w' ⟨s0, s1, s2, s3, s4, s5⟩
           go_simp
          refine pure_ (i := 26) (N := some 52) (v := ?_) (a' := ?_) #[true, true, true, true, true, true, true, true, true, true, true, true, true, true, true, true, true, true, true, true, true, true, true, true, true, true, true, false, false, false, false, false, false, false, false, false, false, false, false, false, false, false] rfl rfl (by kernel_rfl) (fun _ _ _ h => h) (Or.inl ⟨by rfl, ?_⟩) ?_ ?_
          rotate_left
          ·intro w'
           go_simp
           with_reducible rfl
          rotate_left
          ·simp only [Act.put, List.setIfInBounds_toArray, List.set_cons_zero, List.set_cons_succ]
           rfl
          refine pure_ (i := 27) (N := some 53) (v := ?_) (a' := ?_) #[true, true, true, true, true, true, true, true, true, true, true, true, true, true, true, true, true, true, true, true, true, true, true, true, true, true, true, true, false, false, false, false, false, false, false, false, false, false, false, false, false, false] rfl rfl (by kernel_rfl) (fun _ _ _ h => h) (Or.inl ⟨by rfl, ?_⟩) ?_ ?_
          rotate_left
          ·intro w'
           go_simp
           with_reducible rfl
          rotate_left
          ·simp only [Act.put, List.setIfInBounds_toArray, List.set_cons_zero, List.set_cons_succ]
           rfl
          refine pure_ (i := 28) (N := some 54) (v := ?_) (a' := ?_) #[true, true, true, true, true, true, true, true, true, true, true, true, true, true, true, true, true, true, true, true, true, true, true, true, true, true, true, true, true, false, false, false, false, false, false, false, false, false, false, false, false, false] rfl rfl (by kernel_rfl) (fun _ _ _ h => h) (Or.inl ⟨by rfl, ?_⟩) ?_ ?_
          rotate_left
          ·intro w'
           go_simp
           with_reducible rfl
          rotate_left
          ·simp only [Act.put, List.setIfInBounds_toArray, List.set_cons_zero, List.set_cons_succ]
           rfl
          refine pure_ (i := 29) (N := some 55) (v := ?_) (a' := ?_) #[true, true, true, true, true, true, true, true, true, true, true, true, true, true, true, true, true, true, true, true, true, true, true, true, true, true, true, true, true, true, false, false, false, false, false, false, false, false, false, false, false, false] rfl rfl (by kernel_rfl) (fun _ _ _ h => h) (Or.inl ⟨by rfl, ?_⟩) ?_ ?_
          rotate_left
          ·intro w'
           go_simp
           with_reducible rfl
          rotate_left
          ·simp only [Act.put, List.setIfInBounds_toArray, List.set_cons_zero, List.set_cons_succ]
           rfl
          refine pure_ (i := 30) (N := some 56) (v := ?_) (a' := ?_) #[true, true, true, true, true, true, true, true, true, true, true, true, true, true, true, true, true, true, true, true, true, true, true, true, true, true, true, true, true, true, true, false, false, false, false, false, false, false, false, false, false, false] rfl rfl (by kernel_rfl) (fun _ _ _ h => h) (Or.inl ⟨by rfl, ?_⟩) ?_ ?_
          rotate_left
          ·intro w'
           go_simp
           with_reducible rfl
          rotate_left
          ·simp only [Act.put, List.setIfInBounds_toArray, List.set_cons_zero, List.set_cons_succ]
           rfl
          refine pure_ (i := 31) (N := some 57) (v := ?_) (a' := ?_) #[true, true, true, true, true, true, true, true, true, true, true, true, true, true, true, true, true, true, true, true, true, true, true, true, true, true, true, true, true, true, true, true, false, false, false, false, false, false, false, false, false, false] rfl rfl (by kernel_rfl) (fun _ _ _ h => h) (Or.inl ⟨by rfl, ?_⟩) ?_ ?_
          rotate_left
          ·intro w'
           go_simp
           with_reducible rfl
          rotate_left
          ·simp only [Act.put, List.setIfInBounds_toArray, List.set_cons_zero, List.set_cons_succ]
           rfl
          refine pure_ (i := 32) (N := some 58) (v := ?_) (a' := ?_) #[true, true, true, true, true, true, true, true, true, true, true, true, true, true, true, true, true, true, true, true, true, true, true, true, true, true, true, true, true, true, true, true, true, false, false, false, false, false, false, false, false, false] rfl rfl (by kernel_rfl) (fun _ _ _ h => h) (Or.inl ⟨by rfl, ?_⟩) ?_ ?_
          rotate_left
          ·intro w'
           go_simp
           with_reducible rfl
          rotate_left
          ·simp only [Act.put, List.setIfInBounds_toArray, List.set_cons_zero, List.set_cons_succ]
           rfl
          refine pure_ (i := 34) (N := some 60) (v := ?_) (a' := ?_) #[true, true, true, true, true, true, true, true, true, true, true, true, true, true, true, true, true, true, true, true, true, true, true, true, true, true, true, true, true, true, true, true, true, false, true, false, false, false, false, false, false, false] rfl rfl (by kernel_rfl) (fun _ _ _ h => h) (Or.inl ⟨by rfl, ?_⟩) ?_ ?_
          rotate_left
          ·intro w'
           go_simp
           with_reducible rfl
          rotate_left
          ·simp only [Act.put, List.setIfInBounds_toArray, List.set_cons_zero, List.set_cons_succ]
           rfl
          refine pure_ (i := 35) (N := some 61) (v := ?_) (a' := ?_) #[true, true, true, true, true, true, true, true, true, true, true, true, true, true, true, true, true, true, true, true, true, true, true, true, true, true, true, true, true, true, true, true, true, false, true, true, false, false, false, false, false, false] rfl rfl (by kernel_rfl) (fun _ _ _ h => h) (Or.inl ⟨by rfl, ?_⟩) ?_ ?_
          rotate_left
          ·intro w'
           go_simp
           with_reducible rfl
          rotate_left
          ·simp only [Act.put, List.setIfInBounds_toArray, List.set_cons_zero, List.set_cons_succ]
           rfl
          refine pure_ (i := 36) (N := some 62) (v := ?_) (a' := ?_) #[true, true, true, true, true, true, true, true, true, true, true, true, true, true, true, true, true, true, true, true, true, true, true, true, true, true, true, true, true, true, true, true, true, false, true, true, true, false, false, false, false, false] rfl rfl (by kernel_rfl) (fun _ _ _ h => h) (Or.inl ⟨by rfl, ?_⟩) ?_ ?_
          rotate_left
          ·intro w'
           go_simp
           with_reducible rfl
          rotate_left
          ·simp only [Act.put, List.setIfInBounds_toArray, List.set_cons_zero, List.set_cons_succ]
           rfl
          refine pure_ (i := 37) (N := some 63) (v := ?_) (a' := ?_) #[true, true, true, true, true, true, true, true, true, true, true, true, true, true, true, true, true, true, true, true, true, true, true, true, true, true, true, true, true, true, true, true, true, false, true, true, true, true, false, false, false, false] rfl rfl (by kernel_rfl) (fun _ _ _ h => h) (Or.inl ⟨by rfl, ?_⟩) ?_ ?_
          rotate_left
          ·intro w'
           go_simp
           with_reducible rfl
          rotate_left
          ·simp only [Act.put, List.setIfInBounds_toArray, List.set_cons_zero, List.set_cons_succ]
           rfl
          refine take_ (i := 33) (N := some 59) (v := (.slice E1 V.length e1)) (a' := ?_) #[true, true, true, true, true, true, true, true, true, true, true, true, true, true, true, true, true, true, true, true, true, true, true, true, true, true, true, true, true, true, true, true, true, true, true, true, true, true, false, false, false, false] rfl rfl (by kernel_rfl) (fun _ _ _ h => h) (Or.inl ⟨by rfl, ?_⟩) hHeld ?_ ?_
          rotate_left
          rotate_left
          ·simp only [Act.put, List.setIfInBounds_toArray, List.set_cons_zero, List.set_cons_succ]
           rfl
          rotate_left
          ·rintro w' ⟨s0, s1, s2, s3, s4, s5⟩
           go_simp
          refine take_ (i := 38) (N := some 64) (v := (.slice B1 U.length b1)) (a' := ?_) #[true, true, true, true, true, true, true, true, true, true, true, true, true, true, true, true, true, true, true, true, true, true, true, true, true, true, true, true, true, true, true, true, true, true, true, true, true, true, true, false, false, false] rfl rfl (by kernel_rfl) (fun _ _ _ h => h) (Or.inl ⟨by rfl, ?_⟩) hHeld ?_ ?_
          rotate_left
          rotate_left
          ·simp only [Act.put, List.setIfInBounds_toArray, List.set_cons_zero, List.set_cons_succ]
           rfl
          rotate_left
          ·rintro w' ⟨s0, s1, s2, s3, s4, s5⟩
           go_simp
          refine one_ (i := 39) (N := some 65) #[true, true, true, true, true, true, true, true, true, true, true, true, true, true, true, true, true, true, true, true, true, true, true, true, true, true, true, true, true, true, true, true, true, true, true, true, true, true, true, true, false, false] rfl rfl (by kernel_rfl) (by decide) (fun K hK => ?_)
          refine goes_ Tryd.func26 (by kernel_rfl) rfl #[.slice E1 V.length e1, .slice B1 U.length b1] (by rfl) rfl rfl (by first | rfl | (simp only [List.map_toArray, List.map_cons, List.map_nil]; rfl)) ?_
          refine (HSM.out _ hHeld.2.2.2.2.2).mono ?_
          rintro e w5 ⟨rfl, hd⟩
          have hb := hd.below
          refine ⟨_, rfl, hK.out _ _ ⟨(hb.cell (World.block_lt_of_cell? _ _ hHeld.1)).trans hHeld.1, (hb.cell (World.block_lt_of_cell? _ _ hHeld.2.1)).trans hHeld.2.1, (hb.cell (World.block_lt_of_cell? _ _ hHeld.2.2.1)).trans hHeld.2.2.1, (hb.cell (World.block_lt_of_cell? _ _ hHeld.2.2.2.1)).trans hHeld.2.2.2.1, (hb.cell (World.block_lt_of_cell? _ _ hHeld.2.2.2.2.1)).trans hHeld.2.2.2.2.1, below_step hHeld.2.2.2.2.2 hb⟩ (fun hHeld => ?_)⟩
          clear hd hb
          clear hK K
          simp only [Act.put, List.setIfInBounds_toArray, List.set_cons_zero, List.set_cons_succ]
          refine pure_ (i := 40) (N := some 66) (v := ?_) (a' := ?_) #[true, true, true, true, true, true, true, true, true, true, true, true, true, true, true, true, true, true, true, true, true, true, true, true, true, true, true, true, true, true, true, true, true, true, true, true, true, true, true, true, true, false] rfl rfl (by kernel_rfl) (fun _ _ _ h => h) (Or.inl ⟨by rfl, ?_⟩) ?_ ?_
          rotate_left
          ·intro w'
           go_simp
           with_reducible rfl
          rotate_left
          ·simp only [Act.put, List.setIfInBounds_toArray, List.set_cons_zero, List.set_cons_succ]
           rfl
          refine pure_ (i := 41) (N := some 67) (v := ?_) (a' := ?_) #[true, true, true, true, true, true, true, true, true, true, true, true, true, true, true, true, true, true, true, true, true, true, true, true, true, true, true, true, true, true, true, true, true, true, true, true, true, true, true, true, true, true] rfl rfl (by kernel_rfl) (fun _ _ _ h => h) (Or.inl ⟨by rfl, ?_⟩) ?_ ?_
          rotate_left
          ·intro w'
           go_simp
           with_reducible rfl
          rotate_left
          ·simp only [Act.put, List.setIfInBounds_toArray, List.set_cons_zero, List.set_cons_succ]
           rfl
          refine done_ (n := 0) (by kernel_rfl) ?_
          clear hj2 hj0 hl0 hl1 hj1
          go_wp2
          go_roundg k2
          case measure => omega
          case rel => exact ⟨b, j - 1, rfl, by first | rfl | rw [hwm2] | rw [hwm], ⟨by have := JK.out; omega⟩, ⟨by have := JR.out; have := JP.out; omega⟩, ⟨inv_miss JV.out HX.out⟩, ⟨by first | exact below_step JB.out hHeld.2.2.2.2.2 | exact pw_below_drewN JB.out _⟩⟩
         ·rw [b1_, b2_, b3_, b4_] at HX
          rw [b4_] at HSM
          go_wp2
          refine start_ (n := 42) (S := fun w' => w'.cell? ⟨(adj.add (j.toNat * 5)).block, (adj.add (j.toNat * 5)).off + 2, none⟩ = some (.int .i64 xj2) ∧ w'.cell? (adj.add (j.toNat * 5)) = some (.string xj0) ∧ w'.cell? (adl.add (i * 3)) = some (.string sf0) ∧ w'.cell? ⟨(adl.add (i * 3)).block, (adl.add (i * 3)).off + 1, none⟩ = some (.slice B1 U.length b1) ∧ w'.cell? ⟨(adj.add (j.toNat * 5)).block, (adj.add (j.toNat * 5)).off + 1, none⟩ = some (.slice E1 V.length e1) ∧ Below wj.heap.size wj w') (ds := []) #[false, false, false, false, false, false, false, false, false, false, false, false, false, false, false, false, false, false, false, false, false, false, false, false, false, false, false, false, false, false, false, false, false, false, false, false, false, false, false, false, false, false] (by kernel_rfl) rfl rfl ⟨hj2, hj0, hl0, hl1, hj1, below_drew1 (Below.refl wj.heap.size wj)⟩ (fun hHeld => ?_)
          refine pure_ (i := 0) (N := some 26) (v := ?_) (a' := ?_) #[true, false, false, false, false, false, false, false, false, false, false, false, false, false, false, false, false, false, false, false, false, false, false, false, false, false, false, false, false, false, false, false, false, false, false, false, false, false, false, false, false, false] rfl rfl (by kernel_rfl) (fun _ _ _ h => h) (Or.inl ⟨by rfl, ?_⟩) ?_ ?_
          rotate_left
          ·intro w'
           go_simp
           with_reducible rfl
          rotate_left
          ·simp only [Act.put, List.setIfInBounds_toArray, List.set_cons_zero, List.set_cons_succ]
           rfl
          refine pure_ (i := 1) (N := some 27) (v := ?_) (a' := ?_) #[true, true, false, false, false, false, false, false, false, false, false, false, false, false, false, false, false, false, false, false, false, false, false, false, false, false, false, false, false, false, false, false, false, false, false, false, false, false, false, false, false, false] rfl rfl (by kernel_rfl) (fun _ _ _ h => h) (Or.inl ⟨by rfl, ?_⟩) ?_ ?_
          rotate_left
          ·intro w'
           go_simp
           with_reducible rfl
          rotate_left
          ·simp only [Act.put, List.setIfInBounds_toArray, List.set_cons_zero, List.set_cons_succ]
           rfl
          refine pure_ (i := 2) (N := some 28) (v := ?_) (a' := ?_) #[true, true, true, false, false, false, false, false, false, false, false, false, false, false, false, false, false, false, false, false, false, false, false, false, false, false, false, false, false, false, false, false, false, false, false, false, false, false, false, false, false, false] rfl rfl (by kernel_rfl) (fun _ _ _ h => h) (Or.inl ⟨by rfl, ?_⟩) ?_ ?_
          rotate_left
          ·intro w'
           go_simp
           with_reducible rfl
          rotate_left
          ·simp only [Act.put, List.setIfInBounds_toArray, List.set_cons_zero, List.set_cons_succ]
           rfl
          refine pure_ (i := 3) (N := some 29) (v := ?_) (a' := ?_) #[true, true, true, true, false, false, false, false, false, false, false, false, false, false, false, false, false, false, false, false, false, false, false, false, false, false, false, false, false, false, false, false, false, false, false, false, false, false, false, false, false, false] rfl rfl (by kernel_rfl) (fun _ _ _ h => h) (Or.inl ⟨by rfl, ?_⟩) ?_ ?_
          rotate_left
          ·intro w'
           go_simp
           with_reducible rfl
          rotate_left
          ·simp only [Act.put, List.setIfInBounds_toArray, List.set_cons_zero, List.set_cons_succ]
           rfl
          refine pure_ (i := 5) (N := some 31) (v := ?_) (a' := ?_) #[true, true, true, true, false, true, false, false, false, false, false, false, false, false, false, false, false, false, false, false, false, false, false, false, false, false, false, false, false, false, false, false, false, false, false, false, false, false, false, false, false, false] rfl rfl (by kernel_rfl) (fun _ _ _ h => h) (Or.inl ⟨by rfl, ?_⟩) ?_ ?_
          rotate_left
          ·intro w'
           go_simp
           with_reducible rfl
          rotate_left
          ·simp only [Act.put, List.setIfInBounds_toArray, List.set_cons_zero, List.set_cons_succ]
           rfl
          refine take_ (i := 4) (N := some 30) (v := (.int .i64 xj2)) (a' := ?_) #[true, true, true, true, true, true, false, false, false, false, false, false, false, false, false, false, false, false, false, false, false, false, false, false, false, false, false, false, false, false, false, false, false, false, false, false, false, false, false, false, false, false] rfl rfl (by kernel_rfl) (fun _ _ _ h => h) (Or.inl ⟨by rfl, ?_⟩) hHeld ?_ ?_
          rotate_left
          rotate_left
          ·simp only [Act.put, List.setIfInBounds_toArray, List.set_cons_zero, List.set_cons_succ]
           rfl
          rotate_left
          ·rintro w' ⟨s0, s1, s2, s3, s4, s5⟩
           go_simp
          refine pure_ (i := 6) (N := some 32) (v := ?_) (a' := ?_) #[true, true, true, true, true, true, true, false, false, false, false, false, false, false, false, false, false, false, false, false, false, false, false, false, false, false, false, false, false, false, false, false, false, false, false, false, false, false, false, false, false, false] rfl rfl (by kernel_rfl) (fun _ _ _ h => h) (Or.inl ⟨by rfl, ?_⟩) ?_ ?_
          rotate_left
          ·intro w'
           go_simp
           with_reducible rfl
          rotate_left
          ·simp only [Act.put, List.setIfInBounds_toArray, List.set_cons_zero, List.set_cons_succ]
           rfl
          refine pure_ (i := 7) (N := some 33) (v := ?_) (a' := ?_) #[true, true, true, true, true, true, true, true, false, false, false, false, false, false, false, false, false, false, false, false, false, false, false, false, false, false, false, false, false, false, false, false, false, false, false, false, false, false, false, false, false, false] rfl rfl (by kernel_rfl) (fun _ _ _ h => h) (Or.inl ⟨by rfl, ?_⟩) ?_ ?_
          rotate_left
          ·intro w'
           go_simp
           with_reducible rfl
          rotate_left
          ·simp only [Act.put, List.setIfInBounds_toArray, List.set_cons_zero, List.set_cons_succ]
           rfl
          refine pure_ (i := 8) (N := some 34) (v := ?_) (a' := ?_) #[true, true, true, true, true, true, true, true, true, false, false, false, false, false, false, false, false, false, false, false, false, false, false, false, false, false, false, false, false, false, false, false, false, false, false, false, false, false, false, false, false, false] rfl rfl (by kernel_rfl) (fun _ _ _ h => h) (Or.inl ⟨by rfl, ?_⟩) ?_ ?_
          rotate_left
          ·intro w'
           go_simp
           with_reducible rfl
          rotate_left
          ·simp only [Act.put, List.setIfInBounds_toArray, List.set_cons_zero, List.set_cons_succ]
           rfl
          refine pure_ (i := 9) (N := some 35) (v := ?_) (a' := ?_) #[true, true, true, true, true, true, true, true, true, true, false, false, false, false, false, false, false, false, false, false, false, false, false, false, false, false, false, false, false, false, false, false, false, false, false, false, false, false, false, false, false, false] rfl rfl (by kernel_rfl) (fun _ _ _ h => h) (Or.inl ⟨by rfl, ?_⟩) ?_ ?_
          rotate_left
          ·intro w'
           go_simp
           with_reducible rfl
          rotate_left
          ·simp only [Act.put, List.setIfInBounds_toArray, List.set_cons_zero, List.set_cons_succ]
           rfl
          refine pure_ (i := 10) (N := some 36) (v := ?_) (a' := ?_) #[true, true, true, true, true, true, true, true, true, true, true, false, false, false, false, false, false, false, false, false, false, false, false, false, false, false, false, false, false, false, false, false, false, false, false, false, false, false, false, false, false, false] rfl rfl (by kernel_rfl) (fun _ _ _ h => h) (Or.inl ⟨by rfl, ?_⟩) ?_ ?_
          rotate_left
          ·intro w'
           go_simp
           with_reducible rfl
          rotate_left
          ·simp only [Act.put, List.setIfInBounds_toArray, List.set_cons_zero, List.set_cons_succ]
           rfl
          refine pure_ (i := 11) (N := some 37) (v := ?_) (a' := ?_) #[true, true, true, true, true, true, true, true, true, true, true, true, false, false, false, false, false, false, false, false, false, false, false, false, false, false, false, false, false, false, false, false, false, false, false, false, false, false, false, false, false, false] rfl rfl (by kernel_rfl) (fun _ _ _ h => h) (Or.inl ⟨by rfl, ?_⟩) ?_ ?_
          rotate_left
          ·intro w'
           go_simp
           with_reducible rfl
          rotate_left
          ·simp only [Act.put, List.setIfInBounds_toArray, List.set_cons_zero, List.set_cons_succ]
           rfl
          refine pure_ (i := 13) (N := some 39) (v := ?_) (a' := ?_) #[true, true, true, true, true, true, true, true, true, true, true, true, false, true, false, false, false, false, false, false, false, false, false, false, false, false, false, false, false, false, false, false, false, false, false, false, false, false, false, false, false, false] rfl rfl (by kernel_rfl) (fun _ _ _ h => h) (Or.inl ⟨by rfl, ?_⟩) ?_ ?_
          rotate_left
          ·intro w'
           go_simp
           with_reducible rfl
          rotate_left
          ·simp only [Act.put, List.setIfInBounds_toArray, List.set_cons_zero, List.set_cons_succ]
           rfl
          refine pure_ (i := 14) (N := some 40) (v := ?_) (a' := ?_) #[true, true, true, true, true, true, true, true, true, true, true, true, false, true, true, false, false, false, false, false, false, false, false, false, false, false, false, false, false, false, false, false, false, false, false, false, false, false, false, false, false, false] rfl rfl (by kernel_rfl) (fun _ _ _ h => h) (Or.inl ⟨by rfl, ?_⟩) ?_ ?_
          rotate_left
          ·intro w'
           go_simp
           with_reducible rfl
          rotate_left
          ·simp only [Act.put, List.setIfInBounds_toArray, List.set_cons_zero, List.set_cons_succ]
           rfl
          refine pure_ (i := 15) (N := some 41) (v := ?_) (a' := ?_) #[true, true, true, true, true, true, true, true, true, true, true, true, false, true, true, true, false, false, false, false, false, false, false, false, false, false, false, false, false, false, false, false, false, false, false, false, false, false, false, false, false, false] rfl rfl (by kernel_rfl) (fun _ _ _ h => h) (Or.inl ⟨by rfl, ?_⟩) ?_ ?_
          rotate_left
          ·intro w'
           go_simp
           with_reducible rfl
          rotate_left
          ·simp only [Act.put, List.setIfInBounds_toArray, List.set_cons_zero, List.set_cons_succ]
           rfl
          refine pure_ (i := 16) (N := some 42) (v := ?_) (a' := ?_) #[true, true, true, true, true, true, true, true, true, true, true, true, false, true, true, true, true, false, false, false, false, false, false, false, false, false, false, false, false, false, false, false, false, false, false, false, false, false, false, false, false, false] rfl rfl (by kernel_rfl) (fun _ _ _ h => h) (Or.inl ⟨by rfl, ?_⟩) ?_ ?_
          rotate_left
          ·intro w'
           go_simp
           with_reducible rfl
          rotate_left
          ·simp only [Act.put, List.setIfInBounds_toArray, List.set_cons_zero, List.set_cons_succ]
           rfl
          refine take_ (i := 12) (N := some 38) (v := (.string xj0)) (a' := ?_) #[true, true, true, true, true, true, true, true, true, true, true, true, true, true, true, true, true, false, false, false, false, false, false, false, false, false, false, false, false, false, false, false, false, false, false, false, false, false, false, false, false, false] rfl rfl (by kernel_rfl) (fun _ _ _ h => h) (Or.inl ⟨by rfl, ?_⟩) hHeld ?_ ?_
          rotate_left
          rotate_left
          ·simp only [Act.put, List.setIfInBounds_toArray, List.set_cons_zero, List.set_cons_succ]
           rfl
          rotate_left
          ·rintro w' ⟨s0, s1, s2, s3, s4, s5⟩
           go_simp
          refine take_ (i := 17) (N := some 43) (v := (.string sf0)) (a' := ?_) #[true, true, true, true, true, true, true, true, true, true, true, true, true, true, true, true, true, true, false, false, false, false, false, false, false, false, false, false, false, false, false, false, false, false, false, false, false, false, false, false, false, false] rfl rfl (by kernel_rfl) (fun _ _ _ h => h) (Or.inl ⟨by rfl, ?_⟩) hHeld ?_ ?_
          rotate_left
          rotate_left
          ·simp only [Act.put, List.setIfInBounds_toArray, List.set_cons_zero, List.set_cons_succ]
           rfl
          rotate_left
          ·rintro w' ⟨s0, s1, s2, s3, s4, s5⟩
           go_simp
          refine pure_ (i := 18) (N := some 44) (v := ?_) (a' := ?_) #[true, true, true, true, true, true, true, true, true, true, true, true, true, true, true, true, true, true, true, false, false, false, false, false, false, false, false, false, false, false, false, false, false, false, false, false, false, false, false, false, false, false] rfl rfl (by kernel_rfl) (fun _ _ _ h => h) (Or.inl ⟨by rfl, ?_⟩) ?_ ?_
          rotate_left
          ·intro w'
           go_simp
           with_reducible rfl
          rotate_left
          ·simp only [Act.put, List.setIfInBounds_toArray, List.set_cons_zero, List.set_cons_succ]
           rfl
          refine pure_ (i := 19) (N := some 45) (v := ?_) (a' := ?_) #[true, true, true, true, true, true, true, true, true, true, true, true, true, true, true, true, true, true, true, true, false, false, false, false, false, false, false, false, false, false, false, false, false, false, false, false, false, false, false, false, false, false] rfl rfl (by kernel_rfl) (fun _ _ _ h => h) (Or.inl ⟨by rfl, ?_⟩) ?_ ?_
          rotate_left
          ·intro w'
           go_simp
           with_reducible rfl
          rotate_left
          ·simp only [Act.put, List.setIfInBounds_toArray, List.set_cons_zero, List.set_cons_succ]
           rfl
          refine pure_ (i := 20) (N := some 46) (v := ?_) (a' := ?_) #[true, true, true, true, true, true, true, true, true, true, true, true, true, true, true, true, true, true, true, true, true, false, false, false, false, false, false, false, false, false, false, false, false, false, false, false, false, false, false, false, false, false] rfl rfl (by kernel_rfl) (fun _ _ _ h => h) (Or.inl ⟨by rfl, ?_⟩) ?_ ?_
          rotate_left
          ·intro w'
           go_simp
           with_reducible rfl
          rotate_left
          ·simp only [Act.put, List.setIfInBounds_toArray, List.set_cons_zero, List.set_cons_succ]
           rfl
          refine pure_ (i := 21) (N := some 47) (v := ?_) (a' := ?_) #[true, true, true, true, true, true, true, true, true, true, true, true, true, true, true, true, true, true, true, true, true, true, false, false, false, false, false, false, false, false, false, false, false, false, false, false, false, false, false, false, false, false] rfl rfl (by kernel_rfl) (fun _ _ _ h => h) (Or.inl ⟨by rfl, ?_⟩) ?_ ?_
          rotate_left
          ·intro w'
           go_simp
           with_reducible rfl
          rotate_left
          ·simp only [Act.put, List.setIfInBounds_toArray, List.set_cons_zero, List.set_cons_succ]
           rfl
          refine pure_ (i := 22) (N := some 48) (v := ?_) (a' := ?_) #[true, true, true, true, true, true, true, true, true, true, true, true, true, true, true, true, true, true, true, true, true, true, true, false, false, false, false, false, false, false, false, false, false, false, false, false, false, false, false, false, false, false] rfl rfl (by kernel_rfl) (fun _ _ _ h => h) (Or.inl ⟨by rfl, ?_⟩) ?_ ?_
          rotate_left
          ·intro w'
           go_simp
           with_reducible rfl
          rotate_left
          ·simp only [Act.put, List.setIfInBounds_toArray, List.set_cons_zero, List.set_cons_succ]
           rfl
          refine pure_ (i := 23) (N := some 49) (v := ?_) (a' := ?_) #[true, true, true, true, true, true, true, true, true, true, true, true, true, true, true, true, true, true, true, true, true, true, true, true, false, false, false, false, false, false, false, false, false, false, false, false, false, false, false, false, false, false] rfl rfl (by kernel_rfl) (fun _ _ _ h => h) (Or.inl ⟨by rfl, ?_⟩) ?_ ?_
          rotate_left
          ·intro w'
           go_simp
           with_reducible rfl
          rotate_left
          ·simp only [Act.put, List.setIfInBounds_toArray, List.set_cons_zero, List.set_cons_succ]
           rfl
          refine pure_ (i := 24) (N := some 50) (v := ?_) (a' := ?_) #[true, true, true, true, true, true, true, true, true, true, true, true, true, true, true, true, true, true, true, true, true, true, true, true, true, false, false, false, false, false, false, false, false, false, false, false, false, false, false, false, false, false] rfl rfl (by kernel_rfl) (fun _ _ _ h => h) (Or.inl ⟨by rfl, ?_⟩) ?_ ?_
          rotate_left
          ·intro w'
           go_simp
           with_reducible rfl
          rotate_left
          ·simp only [Act.put, List.setIfInBounds_toArray, List.set_cons_zero, List.set_cons_succ]
           rfl
          refine take_ (i := 25) (N := some 51) (v := (.slice B1 U.length b1)) (a' := ?_) #[true, true, true, true, true, true, true, true, true, true, true, true, true, true, true, true, true, true, true, true, true, true, true, true, true, true, false, false, false, false, false, false, false, false, false, false, false, false, false, false, false, false] rfl rfl (by kernel_rfl) (fun _ _ _ h => h) (Or.inl ⟨by rfl, ?_⟩) hHeld ?_ ?_
          rotate_left
          rotate_left
          ·simp only [Act.put, List.setIfInBounds_toArray, List.set_cons_zero, List.set_cons_succ]
           rfl
          rotate_left
          ·rintro w' ⟨s0, s1, s2, s3, s4, s5⟩
           go_simp
          refine pure_ (i := 26) (N := some 52) (v := ?_) (a' := ?_) #[true, true, true, true, true, true, true, true, true, true, true, true, true, true, true, true, true, true, true, true, true, true, true, true, true, true, true, false, false, false, false, false, false, false, false, false, false, false, false, false, false, false] rfl rfl (by kernel_rfl) (fun _ _ _ h => h) (Or.inl ⟨by rfl, ?_⟩) ?_ ?_
          rotate_left
          ·intro w'
           go_simp
           with_reducible rfl
          rotate_left
          ·simp only [Act.put, List.setIfInBounds_toArray, List.set_cons_zero, List.set_cons_succ]
           rfl
          refine pure_ (i := 27) (N := some 53) (v := ?_) (a' := ?_) #[true, true, true, true, true, true, true, true, true, true, true, true, true, true, true, true, true, true, true, true, true, true, true, true, true, true, true, true, false, false, false, false, false, false, false, false, false, false, false, false, false, false] rfl rfl (by kernel_rfl) (fun _ _ _ h => h) (Or.inl ⟨by rfl, ?_⟩) ?_ ?_
          rotate_left
          ·intro w'
           go_simp
           with_reducible rfl
          rotate_left
          ·simp only [Act.put, List.setIfInBounds_toArray, List.set_cons_zero, List.set_cons_succ]
           rfl
          refine pure_ (i := 28) (N := some 54) (v := ?_) (a' := ?_) #[true, true, true, true, true, true, true, true, true, true, true, true, true, true, true, true, true, true, true, true, true, true, true, true, true, true, true, true, true, false, false, false, false, false, false, false, false, false, false, false, false, false] rfl rfl (by kernel_rfl) (fun _ _ _ h => h) (Or.inl ⟨by rfl, ?_⟩) ?_ ?_
          rotate_left
          ·intro w'
           go_simp
           with_reducible rfl
          rotate_left
          ·simp only [Act.put, List.setIfInBounds_toArray, List.set_cons_zero, List.set_cons_succ]
           rfl
          refine pure_ (i := 29) (N := some 55) (v := ?_) (a' := ?_) #[true, true, true, true, true, true, true, true, true, true, true, true, true, true, true, true, true, true, true, true, true, true, true, true, true, true, true, true, true, true, false, false, false, false, false, false, false, false, false, false, false, false] rfl rfl (by kernel_rfl) (fun _ _ _ h => h) (Or.inl ⟨by rfl, ?_⟩) ?_ ?_
          rotate_left
          ·intro w'
           go_simp
           with_reducible rfl
          rotate_left
          ·simp only [Act.put, List.setIfInBounds_toArray, List.set_cons_zero, List.set_cons_succ]
           rfl
          refine pure_ (i := 30) (N := some 56) (v := ?_) (a' := ?_) #[true, true, true, true, true, true, true, true, true, true, true, true, true, true, true, true, true, true, true, true, true, true, true, true, true, true, true, true, true, true, true, false, false, false, false, false, false, false, false, false, false, false] rfl rfl (by kernel_rfl) (fun _ _ _ h => h) (Or.inl ⟨by rfl, ?_⟩) ?_ ?_
          rotate_left
          ·intro w'
           go_simp
           with_reducible rfl
          rotate_left
          ·simp only [Act.put, List.setIfInBounds_toArray, List.set_cons_zero, List.set_cons_succ]
           rfl
          refine pure_ (i := 31) (N := some 57) (v := ?_) (a' := ?_) #[true, true, true, true, true, true, true, true, true, true, true, true, true, true, true, true, true, true, true, true, true, true, true, true, true, true, true, true, true, true, true, true, false, false, false, false, false, false, false, false, false, false] rfl rfl (by kernel_rfl) (fun _ _ _ h => h) (Or.inl ⟨by rfl, ?_⟩) ?_ ?_
          rotate_left
          ·intro w'
           go_simp
           with_reducible rfl
          rotate_left
          ·simp only [Act.put, List.setIfInBounds_toArray, List.set_cons_zero, List.set_cons_succ]
           rfl
          refine pure_ (i := 32) (N := some 58) (v := ?_) (a' := ?_) #[true, true, true, true, true, true, true, true, true, true, true, true, true, true, true, true, true, true, true, true, true, true, true, true, true, true, true, true, true, true, true, true, true, false, false, false, false, false, false, false, false, false] rfl rfl (by kernel_rfl) (fun _ _ _ h => h) (Or.inl ⟨by rfl, ?_⟩) ?_ ?_
          rotate_left
          ·intro w'
           go_simp
           with_reducible rfl
          rotate_left
          ·simp only [Act.put, List.setIfInBounds_toArray, List.set_cons_zero, List.set_cons_succ]
           rfl
          refine pure_ (i := 34) (N := some 60) (v := ?_) (a' := ?_) #[true, true, true, true, true, true, true, true, true, true, true, true, true, true, true, true, true, true, true, true, true, true, true, true, true, true, true, true, true, true, true, true, true, false, true, false, false, false, false, false, false, false] rfl rfl (by kernel_rfl) (fun _ _ _ h => h) (Or.inl ⟨by rfl, ?_⟩) ?_ ?_
          rotate_left
          ·intro w'
           go_simp
           with_reducible rfl
          rotate_left
          ·simp only [Act.put, List.setIfInBounds_toArray, List.set_cons_zero, List.set_cons_succ]
           rfl
          refine pure_ (i := 35) (N := some 61) (v := ?_) (a' := ?_) #[true, true, true, true, true, true, true, true, true, true, true, true, true, true, true, true, true, true, true, true, true, true, true, true, true, true, true, true, true, true, true, true, true, false, true, true, false, false, false, false, false, false] rfl rfl (by kernel_rfl) (fun _ _ _ h => h) (Or.inl ⟨by rfl, ?_⟩) ?_ ?_
          rotate_left
          ·intro w'
           go_simp
           with_reducible rfl
          rotate_left
          ·simp only [Act.put, List.setIfInBounds_toArray, List.set_cons_zero, List.set_cons_succ]
           rfl
          refine pure_ (i := 36) (N := some 62) (v := ?_) (a' := ?_) #[true, true, true, true, true, true, true, true, true, true, true, true, true, true, true, true, true, true, true, true, true, true, true, true, true, true, true, true, true, true, true, true, true, false, true, true, true, false, false, false, false, false] rfl rfl (by kernel_rfl) (fun _ _ _ h => h) (Or.inl ⟨by rfl, ?_⟩) ?_ ?_
          rotate_left
          ·intro w'
           go_simp
           with_reducible rfl
          rotate_left
          ·simp only [Act.put, List.setIfInBounds_toArray, List.set_cons_zero, List.set_cons_succ]
           rfl
          refine pure_ (i := 37) (N := some 63) (v := ?_) (a' := ?_) #[true, true, true, true, true, true, true, true, true, true, true, true, true, true, true, true, true, true, true, true, true, true, true, true, true, true, true, true, true, true, true, true, true, false, true, true, true, true, false, false, false, false] rfl rfl (by kernel_rfl) (fun _ _ _ h => h) (Or.inl ⟨by rfl, ?_⟩) ?_ ?_
          rotate_left
          ·intro w'
           go_simp
           with_reducible rfl
          rotate_left
          ·simp only [Act.put, List.setIfInBounds_toArray, List.set_cons_zero, List.set_cons_succ]
           rfl
          refine take_ (i := 33) (N := some 59) (v := (.slice E1 V.length e1)) (a' := ?_) #[true, true, true, true, true, true, true, true, true, true, true, true, true, true, true, true, true, true, true, true, true, true, true, true, true, true, true, true, true, true, true, true, true, true, true, true, true, true, false, false, false, false] rfl rfl (by kernel_rfl) (fun _ _ _ h => h) (Or.inl ⟨by rfl, ?_⟩) hHeld ?_ ?_
          rotate_left
          rotate_left
          ·simp only [Act.put, List.setIfInBounds_toArray, List.set_cons_zero, List.set_cons_succ]
           rfl
          rotate_left
          ·rintro w' ⟨s0, s1, s2, s3, s4, s5⟩
           go_simp
          refine take_ (i := 38) (N := some 64) (v := (.slice B1 U.length b1)) (a' := ?_) #[true, true, true, true, true, true, true, true, true, true, true, true, true, true, true, true, true, true, true, true, true, true, true, true, true, true, true, true, true, true, true, true, true, true, true, true, true, true, true, false, false, false] rfl rfl (by kernel_rfl) (fun _ _ _ h => h) (Or.inl ⟨by rfl, ?_⟩) hHeld ?_ ?_
          rotate_left
          rotate_left
          ·simp only [Act.put, List.setIfInBounds_toArray, List.set_cons_zero, List.set_cons_succ]
           rfl
          rotate_left
          ·rintro w' ⟨s0, s1, s2, s3, s4, s5⟩
           go_simp
          refine one_ (i := 39) (N := some 65) #[true, true, true, true, true, true, true, true, true, true, true, true, true, true, true, true, true, true, true, true, true, true, true, true, true, true, true, true, true, true, true, true, true, true, true, true, true, true, true, true, false, false] rfl rfl (by kernel_rfl) (by decide) (fun K hK => ?_)
          refine goes_ Tryd.func26 (by kernel_rfl) rfl #[.slice E1 V.length e1, .slice B1 U.length b1] (by rfl) rfl rfl (by first | rfl | (simp only [List.map_toArray, List.map_cons, List.map_nil]; rfl)) ?_
          refine (HSM.out _ hHeld.2.2.2.2.2).mono ?_
          rintro e w5 ⟨rfl, hd⟩
          have hb := hd.below
          refine ⟨_, rfl, hK.out _ _ ⟨(hb.cell (World.block_lt_of_cell? _ _ hHeld.1)).trans hHeld.1, (hb.cell (World.block_lt_of_cell? _ _ hHeld.2.1)).trans hHeld.2.1, (hb.cell (World.block_lt_of_cell? _ _ hHeld.2.2.1)).trans hHeld.2.2.1, (hb.cell (World.block_lt_of_cell? _ _ hHeld.2.2.2.1)).trans hHeld.2.2.2.1, (hb.cell (World.block_lt_of_cell? _ _ hHeld.2.2.2.2.1)).trans hHeld.2.2.2.2.1, below_step hHeld.2.2.2.2.2 hb⟩ (fun hHeld => ?_)⟩
          clear hd hb
          clear hK K
          simp only [Act.put, List.setIfInBounds_toArray, List.set_cons_zero, List.set_cons_succ]
          refine pure_ (i := 40) (N := some 66) (v := ?_) (a' := ?_) #[true, true, true, true, true, true, true, true, true, true, true, true, true, true, true, true, true, true, true, true, true, true, true, true, true, true, true, true, true, true, true, true, true, true, true, true, true, true, true, true, true, false] rfl rfl (by kernel_rfl) (fun _ _ _ h => h) (Or.inl ⟨by rfl, ?_⟩) ?_ ?_
          rotate_left
          ·intro w'
           go_simp
           with_reducible rfl
          rotate_left
          ·simp only [Act.put, List.setIfInBounds_toArray, List.set_cons_zero, List.set_cons_succ]
           rfl
          refine pure_ (i := 41) (N := some 67) (v := ?_) (a' := ?_) #[true, true, true, true, true, true, true, true, true, true, true, true, true, true, true, true, true, true, true, true, true, true, true, true, true, true, true, true, true, true, true, true, true, true, true, true, true, true, true, true, true, true] rfl rfl (by kernel_rfl) (fun _ _ _ h => h) (Or.inl ⟨by rfl, ?_⟩) ?_ ?_
          rotate_left
          ·intro w'
           go_simp
           with_reducible rfl
          rotate_left
          ·simp only [Act.put, List.setIfInBounds_toArray, List.set_cons_zero, List.set_cons_succ]
           rfl
          refine done_ (n := 0) (by kernel_rfl) ?_
          clear hj2 hj0 hl0 hl1 hj1
          go_wp2
          go_roundg k2
          case measure => omega
          case rel => exact ⟨j, j - 1, rfl, by first | rfl | rw [hwm2] | rw [hwm], ⟨by have := JK.out; omega⟩, ⟨by have := JR.out; have := JP.out; omega⟩, ⟨inv_hit JR.out JP.out JV.out HX.out⟩, ⟨by first | exact below_step JB.out hHeld.2.2.2.2.2 | exact pw_below_drewN JB.out _⟩⟩
        ·rw [b1_, b2_, b3_, Bool.true_and, Bool.true_and, Bool.true_or] at HX
         go_wp2
         go_quiet (fail)
         clear hj2 hj0 hl0 hl1 hj1
         go_wp2
         go_roundg k2
         case measure => omega
         case rel => exact ⟨j, j - 1, rfl, by first | rfl | rw [hwm2] | rw [hwm], ⟨by have := JK.out; omega⟩, ⟨by have := JR.out; have := JP.out; omega⟩, ⟨inv_hit JR.out JP.out JV.out HX.out⟩, ⟨by first | exact below_step JB.out hHeld.2.2.2.2.2 | exact pw_below_drewN JB.out _⟩⟩
     ·have dpos : decide (0 < j) = false := decide_eq_false hpos
      have hj : j = 0 := by have := JR.out; omega
      subst hj
      have HB2 := Aside0.mk (below_step HB.out JB.out)
      by_cases hb : b < 0
      ·have db : decide (b < 0) = true := decide_eq_true hb
       have hn := inv_none JV.out hb H0.out
       have hq := HQ2.out
       rw [if_pos hn] at hq
       obtain ⟨rfl, rfl⟩ : (0 : Int) = r1 ∧ (19 : Int) = r2 := by simpa using hq
       clear hq hn hb hpos
       go_wp2
       go_ret2
       exact ⟨rfl, HB2.out⟩
      ·have db : decide (b < 0) = false := decide_eq_false hb
       have hn := inv_found JV.out (by omega) H0.out
       have hq := HQ2.out
       rw [hn, if_neg hb] at hq
       have HQ3 := Aside0.mk hq
       have HBN := Aside0.mk (show 0 ≤ b by omega)
       clear hq hn hb hpos
       go_wp2
       go_roundg k1
       case measure => omega
       case rel => exact ⟨i + 1, b, rfl, by first | rfl | rw [hwi2] | rw [hwi], ⟨by have := HI.out; omega⟩, HBN, HQ3, HB2⟩
end Go.Proofs.YtnalcjgefbelnaaDoor.Q
end
section
namespace Go.Proofs.YtnalcjgefbelnaaDoor.Q
open Go.RowKit Go.Proofs.YtnalcjgefbelnaaDoorW.PrintWords Go.Proofs.YtnalcjgefbelnaaDoorW.PrintLast Go.Proofs.YtnalcjgefbelnaaDoorW.PrintMore
set_option linter.unusedVariables false
set_option linter.unusedSimpArgs false

attribute [local go_sem] max2_int min2_int max_two min_two max_three min_three max_four min_four
/-! ### tinderlaw08_TreeFinds: function 5 -/
def tinderlaw08_TreeFinds.f (k : Nat) (l0 : List (S44)) (l1 : List (S49)) (a2 : Int) : Option (Bool) := (tinderlaw08_alive.f).bind fun t6001 => (if t6001 = true then ((tree_Find.f l0 l1).bind fun bt6002 => ((tinderref08_Find.f l0 l1).bind fun bt6004 => ((tree_Path.f l0 a2).bind fun bt6006 => ((tinderref08_Path.f k l0 a2).bind fun bt6008 => (if bt6002.1 = bt6004.1 then (if bt6002.2 = bt6004.2 then (if bt6006.1.toList = bt6008.1.toList then (some (bt6006.2 == bt6008.2)) else (some false)) else (some false)) else (some false)))))) else (some false))
set_option maxHeartbeats 8000000 in
set_option maxRecDepth 100000 in
theorem tinderlaw08_TreeFinds.calls (k : Nat) (A0 : Option Addr) (c0 : Nat) (l0 : List (S44)) (A1 : Option Addr) (c1 : Nat) (l1 : List (S49)) (a2 : Int) (r : Bool) (w : World) (ht : QB.Tabs w) (hr0 : Kd.C k44 w A0 l0.length l0) (hc0 : l0.length ≤ c0) (hr1 : Kd.C k49 w A1 l1.length l1) (hc1 : l1.length ≤ c1) (h : tinderlaw08_TreeFinds.f k l0 l1 a2 = some r) :
  Calls Tryd.prog 5 #[.slice A0 l0.length c0, .slice A1 l1.length c1, .int .i64 a2] w fun e w' => e = .returned (.bool r) ∧ Below w.heap.size w w' := by
 have HR0 := Aside0.mk hr0
 have HC0 := Aside0.mk hc0
 clear hr0 hc0
 have HR1 := Aside0.mk hr1
 have HC1 := Aside0.mk hc1
 clear hr1 hc1
 have HB := Aside0.mk (Below.refl w.heap.size w)
 have H : ((tinderlaw08_alive.f).bind fun t6001 => (if t6001 = true then ((tree_Find.f l0 l1).bind fun bt6002 => ((tinderref08_Find.f l0 l1).bind fun bt6004 => ((tree_Path.f l0 a2).bind fun bt6006 => ((tinderref08_Path.f k l0 a2).bind fun bt6008 => (if bt6002.1 = bt6004.1 then (if bt6002.2 = bt6004.2 then (if bt6006.1.toList = bt6008.1.toList then (some (bt6006.2 == bt6008.2)) else (some false)) else (some false)) else (some false)))))) else (some false))) = some r := h
 clear h
 replace H := Option.bind_eq_some_iff.mp H
 obtain ⟨t6001, A40, H⟩ := H
 replace H : (if t6001 = true then ((tree_Find.f l0 l1).bind fun bt6002 => ((tinderref08_Find.f l0 l1).bind fun bt6004 => ((tree_Path.f l0 a2).bind fun bt6006 => ((tinderref08_Path.f k l0 a2).bind fun bt6008 => (if bt6002.1 = bt6004.1 then (if bt6002.2 = bt6004.2 then (if bt6006.1.toList = bt6008.1.toList then (some (bt6006.2 == bt6008.2)) else (some false)) else (some false)) else (some false)))))) else (some false)) = some r := H
 have A4 := Aside0.mk A40
 clear A40
 by_cases c5 : t6001 = true
 ·subst c5
  have H1 : ((tree_Find.f l0 l1).bind fun bt6002 => ((tinderref08_Find.f l0 l1).bind fun bt6004 => ((tree_Path.f l0 a2).bind fun bt6006 => ((tinderref08_Path.f k l0 a2).bind fun bt6008 => (if bt6002.1 = bt6004.1 then (if bt6002.2 = bt6004.2 then (if bt6006.1.toList = bt6008.1.toList then (some (bt6006.2 == bt6008.2)) else (some false)) else (some false)) else (some false)))))) = some r := by rw [if_pos rfl] at H; exact H
  clear H
  have H := H1
  clear H1
  replace H := Option.bind_eq_some_iff.mp H
  obtain ⟨⟨t6002, t6003⟩, A60, H⟩ := H
  replace H : ((tinderref08_Find.f l0 l1).bind fun bt6004 => ((tree_Path.f l0 a2).bind fun bt6006 => ((tinderref08_Path.f k l0 a2).bind fun bt6008 => (if t6002 = bt6004.1 then (if t6003 = bt6004.2 then (if bt6006.1.toList = bt6008.1.toList then (some (bt6006.2 == bt6008.2)) else (some false)) else (some false)) else (some false))))) = some r := H
  have A6 := Aside0.mk A60
  clear A60
  replace H := Option.bind_eq_some_iff.mp H
  obtain ⟨⟨t6004, t6005⟩, A70, H⟩ := H
  replace H : ((tree_Path.f l0 a2).bind fun bt6006 => ((tinderref08_Path.f k l0 a2).bind fun bt6008 => (if t6002 = t6004 then (if t6003 = t6005 then (if bt6006.1.toList = bt6008.1.toList then (some (bt6006.2 == bt6008.2)) else (some false)) else (some false)) else (some false)))) = some r := H
  have A7 := Aside0.mk A70
  clear A70
  replace H := Option.bind_eq_some_iff.mp H
  obtain ⟨⟨t6006, t6007⟩, A80, H⟩ := H
  replace H : ((tinderref08_Path.f k l0 a2).bind fun bt6008 => (if t6002 = t6004 then (if t6003 = t6005 then (if t6006.toList = bt6008.1.toList then (some (t6007 == bt6008.2)) else (some false)) else (some false)) else (some false))) = some r := H
  have A8 := Aside0.mk A80
  clear A80
  replace H := Option.bind_eq_some_iff.mp H
  obtain ⟨⟨t6008, t6009⟩, A90, H⟩ := H
  replace H : (if t6002 = t6004 then (if t6003 = t6005 then (if t6006.toList = t6008.toList then (some (t6007 == t6009)) else (some false)) else (some false)) else (some false)) = some r := H
  have A9 := Aside0.mk A90
  clear A90
  by_cases c10 : t6002 = t6004
  ·rw [if_pos c10] at H
   have c10b0 : (t6002 == t6004) = true := beq_iff_eq.mpr c10
   have c10b1 : (t6002 != t6004) = false := bne_eq_false_iff_eq.mpr c10
   clear c10
   by_cases c11 : t6003 = t6005
   ·rw [if_pos c11] at H
    have c11b0 : (t6003 == t6005) = true := beq_iff_eq.mpr c11
    have c11b1 : (t6003 != t6005) = false := bne_eq_false_iff_eq.mpr c11
    clear c11
    by_cases c12 : t6006.toList = t6008.toList
    ·rw [if_pos c12] at H
     have c12b0 : (t6006.toList == t6008.toList) = true := beq_iff_eq.mpr c12
     have c12b1 : (t6006.toList != t6008.toList) = false := bne_eq_false_iff_eq.mpr c12
     clear c12
     obtain rfl := Option.some.inj H
     go_enter Tryd.func5, Tryd.ntmps5
     go_wp2_with (first | ((with_reducible refine gate_callee (f := 11) rfl ?_); refine goesL_ (some 15) rfl rfl Tryd.func11 (by kernel_rfl) rfl #[] rfl (by (try simp only [List.map_toArray, List.map_cons, List.map_nil]); first | done | rfl | (simp only [List.length_drop, List.length_take]; rfl)) ?_; (with_reducible refine (tinderlaw08_alive.calls  true _ (QB.Tabs.below ht (by repeat (first | (with_reducible first | exact HB.out | apply below_alloc | apply pw_below_drewN | apply below_drew1 | refine below_set ?_ (Aside0.out (by assumption))) | exact HB.out))) A4.out).mono ?_); rintro e w13 ⟨rfl, hb⟩; refine ⟨_, rfl, ?_⟩; have n0_ := Aside0.mk (below_step (by repeat (first | (with_reducible first | exact HB.out | apply below_alloc | apply pw_below_drewN | apply below_drew1) | exact HB.out)) hb); clear HB; have HB := n0_; clear n0_; (try clear hb); (try clear hb2); (try clear hk); (try clear hi)) | ((with_reducible refine gate_callee (f := 21) rfl ?_); refine goesL_ (some 20) rfl rfl Tryd.func21 (by kernel_rfl) rfl #[.slice A0 l0.length c0, .slice A1 l1.length c1] rfl (by (try simp only [List.map_toArray, List.map_cons, List.map_nil]); first | done | rfl | (simp only [List.length_drop, List.length_take]; rfl)) ?_; (with_reducible refine (tree_Find.calls _ _ l0 _ _ l1 t6002 t6003 _ ?side1 ?side2 ?side3 ?side4 A6.out).mono ?_); (case side1 => repeat (first | exact (Kd.C_below HR0.out HB.out) | (with_reducible refine Kd.C_alloc ?_ _) | (with_reducible refine Kd.C_drewN ?_ _) | (with_reducible refine Kd.C_drew ?_))); (case side2 => exact HC0.out); (case side3 => repeat (first | exact (Kd.C_below HR1.out HB.out) | (with_reducible refine Kd.C_alloc ?_ _) | (with_reducible refine Kd.C_drewN ?_ _) | (with_reducible refine Kd.C_drew ?_))); (case side4 => exact HC1.out); rintro e w14 ⟨rfl, hb⟩; refine ⟨_, rfl, ?_⟩; have n0_ := Aside0.mk (below_step (by repeat (first | (with_reducible first | exact HB.out | apply below_alloc | apply pw_below_drewN | apply below_drew1) | exact HB.out)) hb); clear HB; have HB := n0_; clear n0_; (try clear hb); (try clear hb2); (try clear hk); (try clear hi)) | ((with_reducible refine gate_callee (f := 22) rfl ?_); refine goesL_ (some 26) rfl rfl Tryd.func22 (by kernel_rfl) rfl #[.slice A0 l0.length c0, .slice A1 l1.length c1] rfl (by (try simp only [List.map_toArray, List.map_cons, List.map_nil]); first | done | rfl | (simp only [List.length_drop, List.length_take]; rfl)) ?_; (with_reducible refine (tinderref08_Find.calls _ _ l0 _ _ l1 t6004 t6005 _ ?side1 ?side2 ?side3 ?side4 A7.out).mono ?_); (case side1 => repeat (first | exact (Kd.C_below HR0.out HB.out) | (with_reducible refine Kd.C_alloc ?_ _) | (with_reducible refine Kd.C_drewN ?_ _) | (with_reducible refine Kd.C_drew ?_))); (case side2 => exact HC0.out); (case side3 => repeat (first | exact (Kd.C_below HR1.out HB.out) | (with_reducible refine Kd.C_alloc ?_ _) | (with_reducible refine Kd.C_drewN ?_ _) | (with_reducible refine Kd.C_drew ?_))); (case side4 => exact HC1.out); rintro e w15 ⟨rfl, hb⟩; refine ⟨_, rfl, ?_⟩; have n0_ := Aside0.mk (below_step (by repeat (first | (with_reducible first | exact HB.out | apply below_alloc | apply pw_below_drewN | apply below_drew1) | exact HB.out)) hb); clear HB; have HB := n0_; clear n0_; (try clear hb); (try clear hb2); (try clear hk); (try clear hi)) | ((with_reducible refine gate_callee (f := 23) rfl ?_); refine goesL_ (some 32) rfl rfl Tryd.func23 (by kernel_rfl) rfl #[.slice A0 l0.length c0, .int .i64 a2] rfl (by (try simp only [List.map_toArray, List.map_cons, List.map_nil]); first | done | rfl | (simp only [List.length_drop, List.length_take]; rfl)) ?_; (with_reducible refine (tree_Path.calls _ _ l0 a2 t6006 t6007 _ (QB.Tabs.below ht (by repeat (first | (with_reducible first | exact HB.out | apply below_alloc | apply pw_below_drewN | apply below_drew1 | refine below_set ?_ (Aside0.out (by assumption))) | exact HB.out))) ?side1 ?side2 A8.out).mono ?_); (case side1 => repeat (first | exact (Kd.C_below HR0.out HB.out) | (with_reducible refine Kd.C_alloc ?_ _) | (with_reducible refine Kd.C_drewN ?_ _) | (with_reducible refine Kd.C_drew ?_))); (case side2 => exact HC0.out); rintro e w16 ⟨rfl, hb⟩; refine ⟨_, rfl, ?_⟩; have n0_ := Aside0.mk (below_step (by repeat (first | (with_reducible first | exact HB.out | apply below_alloc | apply pw_below_drewN | apply below_drew1) | exact HB.out)) hb); clear HB; have HB := n0_; clear n0_; (try clear hb); (try clear hb2); (try clear hk); (try clear hi)) | ((with_reducible refine gate_callee (f := 24) rfl ?_); refine goesL_ (some 38) rfl rfl Tryd.func24 (by kernel_rfl) rfl #[.slice A0 l0.length c0, .int .i64 a2] rfl (by (try simp only [List.map_toArray, List.map_cons, List.map_nil]); first | done | rfl | (simp only [List.length_drop, List.length_take]; rfl)) ?_; (with_reducible refine (tinderref08_Path.calls k _ _ l0 a2 t6008 t6009 _ ?side1 ?side2 A9.out).mono ?_); (case side1 => repeat (first | exact (Kd.C_below HR0.out HB.out) | (with_reducible refine Kd.C_alloc ?_ _) | (with_reducible refine Kd.C_drewN ?_ _) | (with_reducible refine Kd.C_drew ?_))); (case side2 => exact HC0.out); rintro e w17 ⟨rfl, hb⟩; refine ⟨_, rfl, ?_⟩; have n0_ := Aside0.mk (below_step (by repeat (first | (with_reducible first | exact HB.out | apply below_alloc | apply pw_below_drewN | apply below_drew1) | exact HB.out)) hb); clear HB; have HB := n0_; clear n0_; (try clear hb); (try clear hb2); (try clear hk); (try clear hi)))
     go_ret
     exact ⟨by first | rfl | (simp [errW_none, errW_some] <;> rfl) | (simp [*, errW_none, errW_some] <;> rfl), by repeat (first | (with_reducible first | exact HB.out | apply below_alloc | apply pw_below_drewN | apply below_drew1) | exact HB.out)⟩
    ·rw [if_neg c12] at H
     have c12b0 : (t6006.toList == t6008.toList) = false := beq_eq_false_iff_ne.mpr c12
     have c12b1 : (t6006.toList != t6008.toList) = true := bne_iff_ne.mpr c12
     obtain rfl := Option.some.inj H
     go_enter Tryd.func5, Tryd.ntmps5
     go_wp2_with (first | ((with_reducible refine gate_callee (f := 11) rfl ?_); refine goesL_ (some 15) rfl rfl Tryd.func11 (by kernel_rfl) rfl #[] rfl (by (try simp only [List.map_toArray, List.map_cons, List.map_nil]); first | done | rfl | (simp only [List.length_drop, List.length_take]; rfl)) ?_; (with_reducible refine (tinderlaw08_alive.calls  true _ (QB.Tabs.below ht (by repeat (first | (with_reducible first | exact HB.out | apply below_alloc | apply pw_below_drewN | apply below_drew1 | refine below_set ?_ (Aside0.out (by assumption))) | exact HB.out))) A4.out).mono ?_); rintro e w18 ⟨rfl, hb⟩; refine ⟨_, rfl, ?_⟩; have n0_ := Aside0.mk (below_step (by repeat (first | (with_reducible first | exact HB.out | apply below_alloc | apply pw_below_drewN | apply below_drew1) | exact HB.out)) hb); clear HB; have HB := n0_; clear n0_; (try clear hb); (try clear hb2); (try clear hk); (try clear hi)) | ((with_reducible refine gate_callee (f := 21) rfl ?_); refine goesL_ (some 20) rfl rfl Tryd.func21 (by kernel_rfl) rfl #[.slice A0 l0.length c0, .slice A1 l1.length c1] rfl (by (try simp only [List.map_toArray, List.map_cons, List.map_nil]); first | done | rfl | (simp only [List.length_drop, List.length_take]; rfl)) ?_; (with_reducible refine (tree_Find.calls _ _ l0 _ _ l1 t6002 t6003 _ ?side1 ?side2 ?side3 ?side4 A6.out).mono ?_); (case side1 => repeat (first | exact (Kd.C_below HR0.out HB.out) | (with_reducible refine Kd.C_alloc ?_ _) | (with_reducible refine Kd.C_drewN ?_ _) | (with_reducible refine Kd.C_drew ?_))); (case side2 => exact HC0.out); (case side3 => repeat (first | exact (Kd.C_below HR1.out HB.out) | (with_reducible refine Kd.C_alloc ?_ _) | (with_reducible refine Kd.C_drewN ?_ _) | (with_reducible refine Kd.C_drew ?_))); (case side4 => exact HC1.out); rintro e w19 ⟨rfl, hb⟩; refine ⟨_, rfl, ?_⟩; have n0_ := Aside0.mk (below_step (by repeat (first | (with_reducible first | exact HB.out | apply below_alloc | apply pw_below_drewN | apply below_drew1) | exact HB.out)) hb); clear HB; have HB := n0_; clear n0_; (try clear hb); (try clear hb2); (try clear hk); (try clear hi)) | ((with_reducible refine gate_callee (f := 22) rfl ?_); refine goesL_ (some 26) rfl rfl Tryd.func22 (by kernel_rfl) rfl #[.slice A0 l0.length c0, .slice A1 l1.length c1] rfl (by (try simp only [List.map_toArray, List.map_cons, List.map_nil]); first | done | rfl | (simp only [List.length_drop, List.length_take]; rfl)) ?_; (with_reducible refine (tinderref08_Find.calls _ _ l0 _ _ l1 t6004 t6005 _ ?side1 ?side2 ?side3 ?side4 A7.out).mono ?_); (case side1 => repeat (first | exact (Kd.C_below HR0.out HB.out) | (with_reducible refine Kd.C_alloc ?_ _) | (with_reducible refine Kd.C_drewN ?_ _) | (with_reducible refine Kd.C_drew ?_))); (case side2 => exact HC0.out); (case side3 => repeat (first | exact (Kd.C_below HR1.out HB.out) | (with_reducible refine Kd.C_alloc ?_ _) | (with_reducible refine Kd.C_drewN ?_ _) | (with_reducible refine Kd.C_drew ?_))); (case side4 => exact HC1.out); rintro e w20 ⟨rfl, hb⟩; refine ⟨_, rfl, ?_⟩; have n0_ := Aside0.mk (below_step (by repeat (first | (with_reducible first | exact HB.out | apply below_alloc | apply pw_below_drewN | apply below_drew1) | exact HB.out)) hb); clear HB; have HB := n0_; clear n0_; (try clear hb); (try clear hb2); (try clear hk); (try clear hi)) | ((with_reducible refine gate_callee (f := 23) rfl ?_); refine goesL_ (some 32) rfl rfl Tryd.func23 (by kernel_rfl) rfl #[.slice A0 l0.length c0, .int .i64 a2] rfl (by (try simp only [List.map_toArray, List.map_cons, List.map_nil]); first | done | rfl | (simp only [List.length_drop, List.length_take]; rfl)) ?_; (with_reducible refine (tree_Path.calls _ _ l0 a2 t6006 t6007 _ (QB.Tabs.below ht (by repeat (first | (with_reducible first | exact HB.out | apply below_alloc | apply pw_below_drewN | apply below_drew1 | refine below_set ?_ (Aside0.out (by assumption))) | exact HB.out))) ?side1 ?side2 A8.out).mono ?_); (case side1 => repeat (first | exact (Kd.C_below HR0.out HB.out) | (with_reducible refine Kd.C_alloc ?_ _) | (with_reducible refine Kd.C_drewN ?_ _) | (with_reducible refine Kd.C_drew ?_))); (case side2 => exact HC0.out); rintro e w21 ⟨rfl, hb⟩; refine ⟨_, rfl, ?_⟩; have n0_ := Aside0.mk (below_step (by repeat (first | (with_reducible first | exact HB.out | apply below_alloc | apply pw_below_drewN | apply below_drew1) | exact HB.out)) hb); clear HB; have HB := n0_; clear n0_; (try clear hb); (try clear hb2); (try clear hk); (try clear hi)) | ((with_reducible refine gate_callee (f := 24) rfl ?_); refine goesL_ (some 38) rfl rfl Tryd.func24 (by kernel_rfl) rfl #[.slice A0 l0.length c0, .int .i64 a2] rfl (by (try simp only [List.map_toArray, List.map_cons, List.map_nil]); first | done | rfl | (simp only [List.length_drop, List.length_take]; rfl)) ?_; (with_reducible refine (tinderref08_Path.calls k _ _ l0 a2 t6008 t6009 _ ?side1 ?side2 A9.out).mono ?_); (case side1 => repeat (first | exact (Kd.C_below HR0.out HB.out) | (with_reducible refine Kd.C_alloc ?_ _) | (with_reducible refine Kd.C_drewN ?_ _) | (with_reducible refine Kd.C_drew ?_))); (case side2 => exact HC0.out); rintro e w22 ⟨rfl, hb⟩; refine ⟨_, rfl, ?_⟩; have n0_ := Aside0.mk (below_step (by repeat (first | (with_reducible first | exact HB.out | apply below_alloc | apply pw_below_drewN | apply below_drew1) | exact HB.out)) hb); clear HB; have HB := n0_; clear n0_; (try clear hb); (try clear hb2); (try clear hk); (try clear hi)))
     go_ret
     exact ⟨by first | rfl | (simp [errW_none, errW_some] <;> rfl) | (simp [*, errW_none, errW_some] <;> rfl), by repeat (first | (with_reducible first | exact HB.out | apply below_alloc | apply pw_below_drewN | apply below_drew1) | exact HB.out)⟩
   ·rw [if_neg c11] at H
    have c11b0 : (t6003 == t6005) = false := beq_eq_false_iff_ne.mpr c11
    have c11b1 : (t6003 != t6005) = true := bne_iff_ne.mpr c11
    obtain rfl := Option.some.inj H
    go_enter Tryd.func5, Tryd.ntmps5
    go_wp2_with (first | ((with_reducible refine gate_callee (f := 11) rfl ?_); refine goesL_ (some 15) rfl rfl Tryd.func11 (by kernel_rfl) rfl #[] rfl (by (try simp only [List.map_toArray, List.map_cons, List.map_nil]); first | done | rfl | (simp only [List.length_drop, List.length_take]; rfl)) ?_; (with_reducible refine (tinderlaw08_alive.calls  true _ (QB.Tabs.below ht (by repeat (first | (with_reducible first | exact HB.out | apply below_alloc | apply pw_below_drewN | apply below_drew1 | refine below_set ?_ (Aside0.out (by assumption))) | exact HB.out))) A4.out).mono ?_); rintro e w23 ⟨rfl, hb⟩; refine ⟨_, rfl, ?_⟩; have n0_ := Aside0.mk (below_step (by repeat (first | (with_reducible first | exact HB.out | apply below_alloc | apply pw_below_drewN | apply below_drew1) | exact HB.out)) hb); clear HB; have HB := n0_; clear n0_; (try clear hb); (try clear hb2); (try clear hk); (try clear hi)) | ((with_reducible refine gate_callee (f := 21) rfl ?_); refine goesL_ (some 20) rfl rfl Tryd.func21 (by kernel_rfl) rfl #[.slice A0 l0.length c0, .slice A1 l1.length c1] rfl (by (try simp only [List.map_toArray, List.map_cons, List.map_nil]); first | done | rfl | (simp only [List.length_drop, List.length_take]; rfl)) ?_; (with_reducible refine (tree_Find.calls _ _ l0 _ _ l1 t6002 t6003 _ ?side1 ?side2 ?side3 ?side4 A6.out).mono ?_); (case side1 => repeat (first | exact (Kd.C_below HR0.out HB.out) | (with_reducible refine Kd.C_alloc ?_ _) | (with_reducible refine Kd.C_drewN ?_ _) | (with_reducible refine Kd.C_drew ?_))); (case side2 => exact HC0.out); (case side3 => repeat (first | exact (Kd.C_below HR1.out HB.out) | (with_reducible refine Kd.C_alloc ?_ _) | (with_reducible refine Kd.C_drewN ?_ _) | (with_reducible refine Kd.C_drew ?_))); (case side4 => exact HC1.out); rintro e w24 ⟨rfl, hb⟩; refine ⟨_, rfl, ?_⟩; have n0_ := Aside0.mk (below_step (by repeat (first | (with_reducible first | exact HB.out | apply below_alloc | apply pw_below_drewN | apply below_drew1) | exact HB.out)) hb); clear HB; have HB := n0_; clear n0_; (try clear hb); (try clear hb2); (try clear hk); (try clear hi)) | ((with_reducible refine gate_callee (f := 22) rfl ?_); refine goesL_ (some 26) rfl rfl Tryd.func22 (by kernel_rfl) rfl #[.slice A0 l0.length c0, .slice A1 l1.length c1] rfl (by (try simp only [List.map_toArray, List.map_cons, List.map_nil]); first | done | rfl | (simp only [List.length_drop, List.length_take]; rfl)) ?_; (with_reducible refine (tinderref08_Find.calls _ _ l0 _ _ l1 t6004 t6005 _ ?side1 ?side2 ?side3 ?side4 A7.out).mono ?_); (case side1 => repeat (first | exact (Kd.C_below HR0.out HB.out) | (with_reducible refine Kd.C_alloc ?_ _) | (with_reducible refine Kd.C_drewN ?_ _) | (with_reducible refine Kd.C_drew ?_))); (case side2 => exact HC0.out); (case side3 => repeat (first | exact (Kd.C_below HR1.out HB.out) | (with_reducible refine Kd.C_alloc ?_ _) | (with_reducible refine Kd.C_drewN ?_ _) | (with_reducible refine Kd.C_drew ?_))); (case side4 => exact HC1.out); rintro e w25 ⟨rfl, hb⟩; refine ⟨_, rfl, ?_⟩; have n0_ := Aside0.mk (below_step (by repeat (first | (with_reducible first | exact HB.out | apply below_alloc | apply pw_below_drewN | apply below_drew1) | exact HB.out)) hb); clear HB; have HB := n0_; clear n0_; (try clear hb); (try clear hb2); (try clear hk); (try clear hi)) | ((with_reducible refine gate_callee (f := 23) rfl ?_); refine goesL_ (some 32) rfl rfl Tryd.func23 (by kernel_rfl) rfl #[.slice A0 l0.length c0, .int .i64 a2] rfl (by (try simp only [List.map_toArray, List.map_cons, List.map_nil]); first | done | rfl | (simp only [List.length_drop, List.length_take]; rfl)) ?_; (with_reducible refine (tree_Path.calls _ _ l0 a2 t6006 t6007 _ (QB.Tabs.below ht (by repeat (first | (with_reducible first | exact HB.out | apply below_alloc | apply pw_below_drewN | apply below_drew1 | refine below_set ?_ (Aside0.out (by assumption))) | exact HB.out))) ?side1 ?side2 A8.out).mono ?_); (case side1 => repeat (first | exact (Kd.C_below HR0.out HB.out) | (with_reducible refine Kd.C_alloc ?_ _) | (with_reducible refine Kd.C_drewN ?_ _) | (with_reducible refine Kd.C_drew ?_))); (case side2 => exact HC0.out); rintro e w26 ⟨rfl, hb⟩; refine ⟨_, rfl, ?_⟩; have n0_ := Aside0.mk (below_step (by repeat (first | (with_reducible first | exact HB.out | apply below_alloc | apply pw_below_drewN | apply below_drew1) | exact HB.out)) hb); clear HB; have HB := n0_; clear n0_; (try clear hb); (try clear hb2); (try clear hk); (try clear hi)) | ((with_reducible refine gate_callee (f := 24) rfl ?_); refine goesL_ (some 38) rfl rfl Tryd.func24 (by kernel_rfl) rfl #[.slice A0 l0.length c0, .int .i64 a2] rfl (by (try simp only [List.map_toArray, List.map_cons, List.map_nil]); first | done | rfl | (simp only [List.length_drop, List.length_take]; rfl)) ?_; (with_reducible refine (tinderref08_Path.calls k _ _ l0 a2 t6008 t6009 _ ?side1 ?side2 A9.out).mono ?_); (case side1 => repeat (first | exact (Kd.C_below HR0.out HB.out) | (with_reducible refine Kd.C_alloc ?_ _) | (with_reducible refine Kd.C_drewN ?_ _) | (with_reducible refine Kd.C_drew ?_))); (case side2 => exact HC0.out); rintro e w27 ⟨rfl, hb⟩; refine ⟨_, rfl, ?_⟩; have n0_ := Aside0.mk (below_step (by repeat (first | (with_reducible first | exact HB.out | apply below_alloc | apply pw_below_drewN | apply below_drew1) | exact HB.out)) hb); clear HB; have HB := n0_; clear n0_; (try clear hb); (try clear hb2); (try clear hk); (try clear hi)))
    go_ret
    exact ⟨by first | rfl | (simp [errW_none, errW_some] <;> rfl) | (simp [*, errW_none, errW_some] <;> rfl), by repeat (first | (with_reducible first | exact HB.out | apply below_alloc | apply pw_below_drewN | apply below_drew1) | exact HB.out)⟩
  ·rw [if_neg c10] at H
   have c10b0 : (t6002 == t6004) = false := beq_eq_false_iff_ne.mpr c10
   have c10b1 : (t6002 != t6004) = true := bne_iff_ne.mpr c10
   obtain rfl := Option.some.inj H
   go_enter Tryd.func5, Tryd.ntmps5
   go_wp2_with (first | ((with_reducible refine gate_callee (f := 11) rfl ?_); refine goesL_ (some 15) rfl rfl Tryd.func11 (by kernel_rfl) rfl #[] rfl (by (try simp only [List.map_toArray, List.map_cons, List.map_nil]); first | done | rfl | (simp only [List.length_drop, List.length_take]; rfl)) ?_; (with_reducible refine (tinderlaw08_alive.calls  true _ (QB.Tabs.below ht (by repeat (first | (with_reducible first | exact HB.out | apply below_alloc | apply pw_below_drewN | apply below_drew1 | refine below_set ?_ (Aside0.out (by assumption))) | exact HB.out))) A4.out).mono ?_); rintro e w28 ⟨rfl, hb⟩; refine ⟨_, rfl, ?_⟩; have n0_ := Aside0.mk (below_step (by repeat (first | (with_reducible first | exact HB.out | apply below_alloc | apply pw_below_drewN | apply below_drew1) | exact HB.out)) hb); clear HB; have HB := n0_; clear n0_; (try clear hb); (try clear hb2); (try clear hk); (try clear hi)) | ((with_reducible refine gate_callee (f := 21) rfl ?_); refine goesL_ (some 20) rfl rfl Tryd.func21 (by kernel_rfl) rfl #[.slice A0 l0.length c0, .slice A1 l1.length c1] rfl (by (try simp only [List.map_toArray, List.map_cons, List.map_nil]); first | done | rfl | (simp only [List.length_drop, List.length_take]; rfl)) ?_; (with_reducible refine (tree_Find.calls _ _ l0 _ _ l1 t6002 t6003 _ ?side1 ?side2 ?side3 ?side4 A6.out).mono ?_); (case side1 => repeat (first | exact (Kd.C_below HR0.out HB.out) | (with_reducible refine Kd.C_alloc ?_ _) | (with_reducible refine Kd.C_drewN ?_ _) | (with_reducible refine Kd.C_drew ?_))); (case side2 => exact HC0.out); (case side3 => repeat (first | exact (Kd.C_below HR1.out HB.out) | (with_reducible refine Kd.C_alloc ?_ _) | (with_reducible refine Kd.C_drewN ?_ _) | (with_reducible refine Kd.C_drew ?_))); (case side4 => exact HC1.out); rintro e w29 ⟨rfl, hb⟩; refine ⟨_, rfl, ?_⟩; have n0_ := Aside0.mk (below_step (by repeat (first | (with_reducible first | exact HB.out | apply below_alloc | apply pw_below_drewN | apply below_drew1) | exact HB.out)) hb); clear HB; have HB := n0_; clear n0_; (try clear hb); (try clear hb2); (try clear hk); (try clear hi)) | ((with_reducible refine gate_callee (f := 22) rfl ?_); refine goesL_ (some 26) rfl rfl Tryd.func22 (by kernel_rfl) rfl #[.slice A0 l0.length c0, .slice A1 l1.length c1] rfl (by (try simp only [List.map_toArray, List.map_cons, List.map_nil]); first | done | rfl | (simp only [List.length_drop, List.length_take]; rfl)) ?_; (with_reducible refine (tinderref08_Find.calls _ _ l0 _ _ l1 t6004 t6005 _ ?side1 ?side2 ?side3 ?side4 A7.out).mono ?_); (case side1 => repeat (first | exact (Kd.C_below HR0.out HB.out) | (with_reducible refine Kd.C_alloc ?_ _) | (with_reducible refine Kd.C_drewN ?_ _) | (with_reducible refine Kd.C_drew ?_))); (case side2 => exact HC0.out); (case side3 => repeat (first | exact (Kd.C_below HR1.out HB.out) | (with_reducible refine Kd.C_alloc ?_ _) | (with_reducible refine Kd.C_drewN ?_ _) | (with_reducible refine Kd.C_drew ?_))); (case side4 => exact HC1.out); rintro e w30 ⟨rfl, hb⟩; refine ⟨_, rfl, ?_⟩; have n0_ := Aside0.mk (below_step (by repeat (first | (with_reducible first | exact HB.out | apply below_alloc | apply pw_below_drewN | apply below_drew1) | exact HB.out)) hb); clear HB; have HB := n0_; clear n0_; (try clear hb); (try clear hb2); (try clear hk); (try clear hi)) | ((with_reducible refine gate_callee (f := 23) rfl ?_); refine goesL_ (some 32) rfl rfl Tryd.func23 (by kernel_rfl) rfl #[.slice A0 l0.length c0, .int .i64 a2] rfl (by (try simp only [List.map_toArray, List.map_cons, List.map_nil]); first | done | rfl | (simp only [List.length_drop, List.length_take]; rfl)) ?_; (with_reducible refine (tree_Path.calls _ _ l0 a2 t6006 t6007 _ (QB.Tabs.below ht (by repeat (first | (with_reducible first | exact HB.out | apply below_alloc | apply pw_below_drewN | apply below_drew1 | refine below_set ?_ (Aside0.out (by assumption))) | exact HB.out))) ?side1 ?side2 A8.out).mono ?_); (case side1 => repeat (first | exact (Kd.C_below HR0.out HB.out) | (with_reducible refine Kd.C_alloc ?_ _) | (with_reducible refine Kd.C_drewN ?_ _) | (with_reducible refine Kd.C_drew ?_))); (case side2 => exact HC0.out); rintro e w31 ⟨rfl, hb⟩; refine ⟨_, rfl, ?_⟩; have n0_ := Aside0.mk (below_step (by repeat (first | (with_reducible first | exact HB.out | apply below_alloc | apply pw_below_drewN | apply below_drew1) | exact HB.out)) hb); clear HB; have HB := n0_; clear n0_; (try clear hb); (try clear hb2); (try clear hk); (try clear hi)) | ((with_reducible refine gate_callee (f := 24) rfl ?_); refine goesL_ (some 38) rfl rfl Tryd.func24 (by kernel_rfl) rfl #[.slice A0 l0.length c0, .int .i64 a2] rfl (by (try simp only [List.map_toArray, List.map_cons, List.map_nil]); first | done | rfl | (simp only [List.length_drop, List.length_take]; rfl)) ?_; (with_reducible refine (tinderref08_Path.calls k _ _ l0 a2 t6008 t6009 _ ?side1 ?side2 A9.out).mono ?_); (case side1 => repeat (first | exact (Kd.C_below HR0.out HB.out) | (with_reducible refine Kd.C_alloc ?_ _) | (with_reducible refine Kd.C_drewN ?_ _) | (with_reducible refine Kd.C_drew ?_))); (case side2 => exact HC0.out); rintro e w32 ⟨rfl, hb⟩; refine ⟨_, rfl, ?_⟩; have n0_ := Aside0.mk (below_step (by repeat (first | (with_reducible first | exact HB.out | apply below_alloc | apply pw_below_drewN | apply below_drew1) | exact HB.out)) hb); clear HB; have HB := n0_; clear n0_; (try clear hb); (try clear hb2); (try clear hk); (try clear hi)))
   go_ret
   exact ⟨by first | rfl | (simp [errW_none, errW_some] <;> rfl) | (simp [*, errW_none, errW_some] <;> rfl), by repeat (first | (with_reducible first | exact HB.out | apply below_alloc | apply pw_below_drewN | apply below_drew1) | exact HB.out)⟩
 ·replace c5 := Bool.eq_false_iff.mpr c5
  subst c5
  have H1 : (some false) = some r := by rw [if_neg (show ¬ (false = true) by decide)] at H; exact H
  clear H
  have H := H1
  clear H1
  obtain rfl := Option.some.inj H
  go_enter Tryd.func5, Tryd.ntmps5
  go_wp2_with (first | ((with_reducible refine gate_callee (f := 11) rfl ?_); refine goesL_ (some 15) rfl rfl Tryd.func11 (by kernel_rfl) rfl #[] rfl (by (try simp only [List.map_toArray, List.map_cons, List.map_nil]); first | done | rfl | (simp only [List.length_drop, List.length_take]; rfl)) ?_; (with_reducible refine (tinderlaw08_alive.calls  false _ (QB.Tabs.below ht (by repeat (first | (with_reducible first | exact HB.out | apply below_alloc | apply pw_below_drewN | apply below_drew1 | refine below_set ?_ (Aside0.out (by assumption))) | exact HB.out))) A4.out).mono ?_); rintro e w33 ⟨rfl, hb⟩; refine ⟨_, rfl, ?_⟩; have n0_ := Aside0.mk (below_step (by repeat (first | (with_reducible first | exact HB.out | apply below_alloc | apply pw_below_drewN | apply below_drew1) | exact HB.out)) hb); clear HB; have HB := n0_; clear n0_; (try clear hb); (try clear hb2); (try clear hk); (try clear hi)))
  go_ret
  exact ⟨by first | rfl | (simp [errW_none, errW_some] <;> rfl) | (simp [*, errW_none, errW_some] <;> rfl), by repeat (first | (with_reducible first | exact HB.out | apply below_alloc | apply pw_below_drewN | apply below_drew1) | exact HB.out)⟩

end Go.Proofs.YtnalcjgefbelnaaDoor.Q
end
section
set_option linter.unusedSimpArgs false
set_option linter.unusedVariables false
namespace Go.Proofs.YtnalcjgefbelnaaDoor.Q
open Go.RowKit Go.Proofs.YtnalcjgefbelnaaDoorW.PrintWords Go.Proofs.YtnalcjgefbelnaaDoorW.PrintLast
def StepsG (z : List S49) : Prop := z.length * 56 ≤ 140737488351232 ∧ ∀ a ∈ z, a.f0.size ≤ 140737488351232 ∧ (a.f1.length * 4 ≤ 140737488351232 ∧ ∀ b ∈ a.f1, (Lit.int .u32 b).wf = true) ∧ a.f2.size ≤ 140737488351232
theorem path_some {t : List S44} (hW : ∀ x ∈ t, U32L x.f1) (n : Int) : ∃ r, tree_Path.f t n = some r := by
 obtain ⟨e, he⟩ := check_some t n
 by_cases h0 : e = 0
 ·subst h0
  exact ⟨_, path_ok8 hW he⟩
 ·exact ⟨_, path_bad8 he h0⟩
theorem find_some (t : List S44) (l : List S49) : ∃ r, tree_Find.f t l = some r := by
 unfold tree_Find.f
 split
 ·exact ⟨_, rfl⟩
 ·exact ⟨_, rfl⟩
theorem treeFinds_row {w : World} (ht : QB.Tabs w) (A : Option Addr) (c : Nat) (z : List S44) (hC : Kd.C k44 w A z.length z) (hc : z.length ≤ c) (hg : TreeG z) (A1 : Option Addr) (c1 : Nat) (l : List S49) (hC1 : Kd.C k49 w A1 l.length l) (hc1 : l.length ≤ c1) (hg1 : StepsG l) (n : Int) (hn : (Lit.int .i64 n).wf = true) :
  Calls Tryd.prog 5 #[.slice A z.length c, .slice A1 l.length c1, .int .i64 n] w fun e w' => e = .returned (.bool true) ∧ Below w.heap.size w w' := by
 have hG := good_of hg
 have hW := tree_u32 hg
 refine tinderlaw08_TreeFinds.calls 10000000000000000000000000000000 A c z A1 c1 l n true w ht hC hc hC1 hc1 ?_
 obtain ⟨x, hx⟩ := find_some z l
 obtain ⟨y, hy⟩ := path_some hW n
 unfold tinderlaw08_TreeFinds.f
 rw [alive08_f, Option.bind_some, if_pos rfl, hx, Option.bind_some, show tinderref08_Find.f z l = tree_Find.f z l from by unfold tinderref08_Find.f; rw [if_pos ⟨goodTB_iff.2 hG, by have := hg1.1; omega⟩], hx, Option.bind_some, hy, Option.bind_some, refPath_eq hG hW n _ (Nat.le_refl _), hy, Option.bind_some, if_pos rfl, if_pos rfl, if_pos rfl, beq_self_eq_true]
end Go.Proofs.YtnalcjgefbelnaaDoor.Q
end
section
namespace Go.Proofs.YtnalcjgefbelnaaDoor.Q
open Go.RowKit Go.Proofs.YtnalcjgefbelnaaDoorW.PrintWords Go.Proofs.YtnalcjgefbelnaaDoorW.PrintLast Go.Proofs.YtnalcjgefbelnaaDoorW.PrintMore
def Opens {α : Type} (P : Program) (t : TypeId) (d : Kd α) (G : α → Prop) : Prop :=
 ∀ (H : Type) (enc : TypeId × Value → H) (W : World) (fuel : Nat) (cs : List Value) (x : DataW H × List MemPlace), DataW.trod enc P W 0 (fun _ => true) true fuel t cs = some x → (∀ n ∈ x.1.weights P t, n ≤ reachBytes) → ∃ a, d.K W a cs ∧ G a
section
variable {P : Program} {t e : TypeId}
theorem opens_int {k : IntKind} (ht : P.underlying t = some (.int k)) : Opens P t (Kd.int k) (fun n => (Lit.int k n).wf = true) := by
 intro H enc W fuel cs x h _
 obtain ⟨n, rfl, _, hw⟩ := DataW.trod_int ht h
 exact ⟨n, rfl, hw⟩
theorem opens_string (ht : P.underlying t = some .string) : Opens P t Kd.string (fun s => s.size ≤ 140737488351232) := by
 intro H enc W fuel cs x h hw
 obtain ⟨s, rfl, rfl, _⟩ := DataW.trod_string ht h
 have := hw s.data.toList.length (by simp [DataW.weights])
 exact ⟨s, rfl, by simpa [reachBytes] using this⟩
theorem weights_all {H : Type} {P : Program} {e : TypeId} : ∀ {l : List (DataW H)} {d : DataW H}, d ∈ l → ∀ n ∈ d.weights P e, n ∈ DataW.weightsAll P e l
 | d0 :: l, d, hd, n, hn => by
  simp only [DataW.weightsAll, List.mem_append]
  rcases List.mem_cons.1 hd with rfl | hd
  ·exact .inl hn
  ·exact .inr (weights_all hd n hn)
theorem cells_get {W : World} {base : Nat} {a : Addr} {n : Nat} {c : List Value} (h : W.cells? base a n = some c) : c.length = n ∧ ∀ i u, c[i]? = some u → W.cell? (a.add i) = some u := by
 unfold World.cells? at h
 split at h
 ·have hl := mapM_some_length h
  refine ⟨by simpa using hl, fun i u hu => ?_⟩
  have hi : i < n := by
   have := (List.getElem?_eq_some_iff.1 hu).1
   simp at hl
   omega
  have := mapM_some_get h i i (by simp [hi])
  rw [this, hu]
 ·cases h
theorem opens_slice {α : Type} {d : Kd α} {G : α → Prop} (ht : P.underlying t = some (.slice e)) (hc : P.cellsOf e = d.sz) (b : Nat) (hb : P.bytesOf e = b) (he : Opens P e d G) :
  Opens P t (Kd.slice e d) (fun xs => xs.length * b ≤ 140737488351232 ∧ ∀ a ∈ xs, G a) := by
 intro H enc W fuel cs x h hw
 rcases DataW.trod_slice ht h with ⟨rfl, _⟩ | ⟨a, len, cap, elems, rest, n, _, rfl, rfl, _, hl, hm, hlen, hel, _⟩
 ·exact ⟨[], ⟨none, 0, rfl, Nat.le_refl _, Kd.C_nil d W⟩, by simp, fun a h => by cases h⟩
 ·have hwt : (elems.length + rest.length) * b ≤ 140737488351232 := by
   have := hw ((elems.length + rest.length) * P.bytesOf e) (by simp [DataW.weights, ht])
   rw [hb] at this
   simpa [reachBytes] using this
  have hall : ∀ i : Fin len, ∃ p : α, ∃ c, c.length = d.sz ∧ d.K W p c ∧ G p ∧ ∀ j u, c[j]? = some u → W.cell? (a.add (i.1 * d.sz + j)) = some u := by
   intro i
   have hi : i.1 < elems.length := by have := i.2; omega
   have h1 := hel i.1 i.2
   rw [List.getElem?_eq_getElem hi] at h1
   obtain ⟨c, hcs, htr⟩ := Option.bind_eq_some_iff.1 h1
   obtain ⟨hcl, hcg⟩ := cells_get hcs
   obtain ⟨p, hK, hG⟩ := he H enc W n c _ htr (fun m hm => hw m (by
    simp only [DataW.weights, ht, List.mem_cons, List.mem_append]
    exact .inr (.inl (weights_all (List.mem_map.2 ⟨_, List.getElem_mem hi, rfl⟩) m hm))))
   refine ⟨p, c, by rw [hcl, hc], hK, hG, fun j u hu => ?_⟩
   have := hcg j u hu
   rw [add_add, hc] at this
   exact this
  refine ⟨List.ofFn fun i => Classical.choose (hall i), ⟨some a, cap, by simp, by simpa using hl, by simp, by simp only [maxLen] at hm; simp; omega, fun _ => ⟨a, rfl, fun j p hj => ?_⟩⟩, ?_, ?_⟩
  ·obtain ⟨hjl, hjp⟩ := List.getElem?_eq_some_iff.1 hj
   simp only [List.length_ofFn] at hjl
   have h2 := Classical.choose_spec (hall ⟨j, hjl⟩)
   rw [List.getElem_ofFn] at hjp
   rw [hjp] at h2
   obtain ⟨c, h3, h4, _, h6⟩ := h2
   exact ⟨c, h3, h4, h6⟩
  ·rw [List.length_ofFn]
   refine Nat.le_trans (Nat.mul_le_mul_right b ?_) hwt
   omega
  ·intro p hp
   obtain ⟨i, rfl⟩ := (List.mem_ofFn).1 hp
   obtain ⟨_, _, _, h5, _⟩ := Classical.choose_spec (hall i)
   exact h5
/-- The fields of a struct from one on, one behind the other. -/
def OpensFields {α : Type} (P : Program) (fs : List Field) (off : Nat) (d : Kd α) (G : α → Prop) : Prop :=
 ∀ (H : Type) (enc : TypeId × Value → H) (W : World) (fuel : Nat) (cs : List Value) (xs : List (DataW H × List MemPlace)), off + d.sz = cs.length → xs.length = fs.length →
  (∀ (i : Nat) (f : Field), fs[i]? = some f → DataW.trod enc P W 0 (fun _ => true) true fuel f.type ((cs.drop f.offset).take (P.cellsOf f.type)) = xs[i]?) →
  (∀ n ∈ DataW.weightsEach P (fs.map (·.type)) (xs.map (·.1)), n ≤ reachBytes) → ∃ a, d.K W a (cs.drop off) ∧ G a
theorem opens_one {α : Type} {d : Kd α} {G : α → Prop} {f : Field} {off : Nat} (ho : f.offset = off) (hc : P.cellsOf f.type = d.sz) (he : Opens P f.type d G) : OpensFields P [f] off d G := by
 intro H enc W fuel cs xs hl hx hf hw
 match xs, hx with
 | [x], _ =>
  have h0 := hf 0 f rfl
  rw [ho, hc, List.take_of_length_le (by rw [List.length_drop]; omega)] at h0
  exact he H enc W fuel _ x h0 (fun n hn => hw n (by simpa [DataW.weightsEach] using hn))
theorem opens_more {α β : Type} {d : Kd α} {d2 : Kd β} {G : α → Prop} {G2 : β → Prop} {f : Field} {fs : List Field} {off : Nat} (ho : f.offset = off) (hc : P.cellsOf f.type = d.sz) (he : Opens P f.type d G) (hs : OpensFields P fs (off + d.sz) d2 G2) :
  OpensFields P (f :: fs) off (Kd.pair d d2) (fun p => G p.1 ∧ G2 p.2) := by
 intro H enc W fuel cs xs hl hx hf hw
 have hl' : off + (d.sz + d2.sz) = cs.length := hl
 match xs, hx with
 | x :: xs, hx =>
  have h0 := hf 0 f rfl
  rw [ho, hc] at h0
  obtain ⟨a, h1, h2⟩ := he H enc W fuel _ x h0 (fun n hn => hw n (by simp only [List.map_cons, DataW.weightsEach, List.mem_append]; exact .inl hn))
  obtain ⟨b, h3, h4⟩ := hs H enc W fuel cs xs (by omega) (by simpa using hx) (fun i g hg => by simpa using hf (i + 1) g (by simpa using hg)) (fun n hn => hw n (by simp only [List.map_cons, DataW.weightsEach, List.mem_append]; exact .inr hn))
  refine ⟨(a, b), ⟨_, _, ?_, h1, h3⟩, h2, h4⟩
  rw [← List.drop_drop, List.take_append_drop]
theorem opens_struct {α : Type} {d : Kd α} {G : α → Prop} {fs : Array Field} (ht : P.underlying t = some (.struct fs)) (hc : P.cellsOf t = d.sz) (hf : OpensFields P fs.toList 0 d G) : Opens P t d G := by
 intro H enc W fuel cs x h hw
 obtain ⟨xs, n, _, rfl, hl, hlen, hg⟩ := DataW.trod_struct ht h
 have := hf H enc W n cs xs (by omega) (by simpa using hlen) (fun i f hi => hg i f (by simpa using hi)) (fun m hm => hw m (by simpa [DataW.weights, ht] using hm))
 simpa using this
theorem opens_iso {α β : Type} {d : Kd α} {G : α → Prop} (f : β → α) (g : α → β) (hfg : ∀ a, f (g a) = a) (h : Opens P t d G) : Opens P t (Kd.iso d f) (fun b => G (f b)) := by
 intro H enc W fuel cs x hx hw
 obtain ⟨a, h1, h2⟩ := h H enc W fuel cs x hx hw
 exact ⟨g a, by show d.K W (f (g a)) cs; rw [hfg]; exact h1, by show G (f (g a)); rw [hfg]; exact h2⟩
theorem weights_each {H : Type} {P : Program} {ts : List TypeId} {ds : List (DataW H)} (h : (DataW.weightsEach P ts ds).all (· ≤ reachBytes) = true) {j : Nat} {t : TypeId} {d : DataW H} (ht : ts[j]? = some t) (hd : ds[j]? = some d) : ∀ n ∈ d.weights P t, n ≤ reachBytes := fun n hn => by
 simpa using List.all_eq_true.1 h _ (DataW.weights_mem_each ht hd n hn)
end
end Go.Proofs.YtnalcjgefbelnaaDoor.Q
end
