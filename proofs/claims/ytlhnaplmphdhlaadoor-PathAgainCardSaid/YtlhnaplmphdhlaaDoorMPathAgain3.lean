/- Contracts of Go functions and plain facts, of several texts, one behind the other; no condition. -/
import Derived.Test.YtlhnaplmphdhlaaDoorMPathAgain2
import Derived.Lib.IndexLaws
import Derived.Laws.Cover1
import Derived.Deep.QuietTactic
import Derived.BigQuiet
import Derived.RangeFuncNested
import Derived.RangeFuncBound
import Derived.RangeFuncCalls
import Derived.RangeFuncLeaves
import Derived.OwnWalkIn
import Derived.OrdersIn
import Derived.Below
import Derived.Shelf.Abstract
import Derived.WalkKit
import Derived.TacticsInMore
import Derived.LoopNIn
import Derived.LoopIn
import Derived.Maps.AppendAt
import Derived.Sort.QuietIn
import Derived.RangeFuncWrites
import Derived.RangeFuncBox
section
set_option linter.unusedSimpArgs false
set_option linter.unusedVariables false
namespace Go.Proofs.YtlhnaplmphdhlaaDoor.Q
open Go.RowKit Go.Shelf Go.Proofs.YtlhnaplmphdhlaaDoorW.PrintWords Go.Proofs.YtlhnaplmphdhlaaDoorW.PrintLast Go.Proofs.YtlhnaplmphdhlaaDoorW.PrintMore
attribute [local go_sem] max2_int min2_int max_two min_two max_three min_three max_four min_four
def okP (x : S81) : Bool := namedF x.f0 && decide (x.f1.length ≤ 4) && !decide (0 ≤ Lib.indexByte x.f2.data.toList 47)
def stepB (x : S81) : List UInt8 := (47 :: x.f0.data.toList) ++ (if 0 < x.f1.length then 64 :: unitsL x.f1 else []) ++ (if x.f2.size = 0 then [] else 58 :: x.f2.data.toList)
def pathL (l : List S81) : List UInt8 := (l.map stepB).flatten
def showP (l : List S81) : ByteArray × Int := if l.length = 0 then (⟨#[47]⟩, 0) else if l.all okP = true then (if 256 < (pathL l).length then (⟨#[]⟩, 3) else (⟨(pathL l).toArray⟩, 0)) else (⟨#[]⟩, 1)
theorem pathL_snoc (l : List S81) (x : S81) : pathL (l ++ [x]) = pathL l ++ stepB x := by
  unfold pathL
  rw [List.map_append, List.flatten_append]
  simp
theorem pathL_take (l : List S81) : ∀ i, (pathL (l.take i)).length ≤ (pathL l).length := by
  intro i
  have h : pathL l = pathL (l.take i) ++ pathL (l.drop i) := by
    unfold pathL
    rw [← List.flatten_append, ← List.map_append, List.take_append_drop]
  rw [h, List.length_append]
  omega
theorem cells_app (a b : List UInt8) : Lib.byteCells (a ++ b) = Lib.byteCells a ++ Lib.byteCells b := by unfold Lib.byteCells; rw [List.map_append]
theorem units_ge : ∀ l : List Int, l.length ≤ (unitsL l).length + 1
  | [] => by simp
  | [v] => by simp
  | v :: u :: l => by
    have ih := units_ge (u :: l)
    unfold unitsL at ih ⊢
    rw [List.map_cons, List.map_cons, Lib.join_cons]
    rw [List.map_cons, Lib.join_cons] at ih
    unfold Lib.joinTail at ih ⊢
    rw [List.map_cons, List.flatten_cons]
    simp only [List.length_append, List.length_cons, List.length_nil] at ih ⊢
    omega
theorem writeL (b : Nat) (P : List UInt8) (s : ByteArray) (W : World) (h : Lib.IsBuilder 87 5 b b (Lib.byteCells P) W) (hl : P.length + s.size ≤ 140737488355328) (hB : b ≤ W.heap.size) :
    Calls Tryd.prog 64 #[.pointer (some ⟨b, 0, none⟩), .string s] W fun e w' => e = .returned (.tuple #[.int .i64 s.size, .nilIface]) ∧ Lib.IsBuilder 87 5 b b (Lib.byteCells (P ++ s.data.toList)) w' ∧ Below b W w' ∧ KeepT b W w' := by
  refine (write_calls b b (Lib.byteCells P) s W h (by rw [Lib.byteCells_length]; exact hl) hB).mono ?_
  rintro e w' ⟨rfl, h1, h2, h3⟩
  refine ⟨rfl, .inr ?_, h2, h3⟩
  rw [cells_app]
  exact h1
theorem rd_T81_get (l : List S81) (i : Int) (h0 : 0 ≤ i) (h : i < l.length) : rd_T81 l i = l[i.toNat]'(by omega) := by
  unfold rd_T81
  rw [List.getD_eq_getElem?_getD, List.getElem?_eq_getElem (by omega)]
  rfl
set_option maxRecDepth 100000 in
set_option maxHeartbeats 8000000 in
theorem show_calls (A : Option Addr) (c : Nat) (l : List S81) (w : World) (ht : QB.Tabs w) (hC : Kd.C k81 w A l.length l) (hc : l.length ≤ c) (hU : ∀ x ∈ l, U32L x.f1) (hl : l.length ≤ 1000000000) (hP : (pathL l).length ≤ 1000000000) :
    Calls Tryd.prog 43 #[.slice A l.length c] w fun e w' => e = .returned (.tuple #[.string (showP l).1, .int .i64 (showP l).2]) ∧ Below w.heap.size w w' := by
  obtain ⟨R, hR⟩ : ∃ R, R = showP l := ⟨_, rfl⟩
  rw [← hR]
  by_cases h0 : l.length = 0
  · have HR := Aside0.mk (show R = (⟨#[47]⟩, 0) by rw [hR]; unfold showP; rw [if_pos h0])
    have d0 : ((l.length : Int) == 0) = true := by rw [h0]; rfl
    clear hR hC hc hU hl hP h0 ht
    go_enter Tryd.func43, Tryd.ntmps43
    go_wp2
    go_ret2
    exact ⟨by rw [HR.out]; rfl, Below.refl _ _⟩
  have d0 : ((l.length : Int) == 0) = false := beq_eq_false_iff_ne.2 (by omega)
  have HR := Aside0.mk (show R = if l.all okP = true then (if 256 < (pathL l).length then (⟨#[]⟩, 3) else (⟨(pathL l).toArray⟩, 0)) else (⟨#[]⟩, 1) by rw [hR]; unfold showP; rw [if_neg h0])
  have HC := Aside0.mk hC
  have HT := Aside0.mk ht
  have HU := Aside0.mk hU
  have HL := Aside0.mk hl
  have HP := Aside0.mk hP
  clear hR hC hc hU hl hP h0 ht
  go_enter Tryd.func43, Tryd.ntmps43
  go_wp2
  go_loopg [12] l.length (fun kq v12 w' => ∃ i : Int, v12 = .int .i64 i ∧ Aside0 (0 ≤ i ∧ i + kq = l.length) ∧ Aside0 (∀ x ∈ l.take i.toNat, okP x = true) ∧ Aside0 (Lib.IsBuilder 87 5 w.heap.size w.heap.size (Lib.byteCells (pathL (l.take i.toNat))) w') ∧ Aside0 (Below w.heap.size w w'))
  case atStart =>
    refine ⟨0, rfl, ⟨by omega, by omega⟩, ⟨fun x hx => by simp at hx⟩, ⟨.inl ⟨Nat.le_refl _, .slice none 0 0, heap_alloc_new w _, World.ownsRow_nil _ _ _ _, by simp [Value.ownBlock]⟩⟩, ⟨below_alloc (Below.refl _ _) _⟩⟩
  case round =>
    obtain ⟨i, rfl, HI, HO, HW, HB⟩ := hrel
    cases gk with
    | zero =>
      have hi := HI.out
      have hil : i = (l.length : Int) := by omega
      have ho := HO.out
      have hw := HW.out
      rw [hil, Int.toNat_natCast, List.take_length] at ho hw
      have hR := HR.out
      rw [if_pos (List.all_eq_true.2 ho)] at hR
      have hlt : decide (i < (l.length : Int)) = false := decide_eq_false (by omega)
      have HLN := Aside0.mk (Tryd.Builder_Len w.heap.size w.heap.size _ wr hw)
      rw [Lib.byteCells_length] at HLN
      have HST := Aside0.mk (Tryd.Builder_String_any w.heap.size w.heap.size (pathL l) wr hw HB.out.size)
      by_cases hb : 256 < (pathL l).length
      · rw [if_pos hb] at hR
        have d1 : decide (256 < ((pathL l).length : Int)) = true := decide_eq_true (by omega)
        have HE := Aside0.mk hR
        generalize (pathL l).length = n at HLN d1
        clear hi hil ho hw hR HST HI HO HW HC HT HU HP hb
        go_wp2_with (go_at_call 65; (with_reducible refine HLN.out.mono ?_); rintro e w7 ⟨rfl, rfl⟩)
        go_ret2
        exact ⟨by rw [HE.out]; rfl, HB.out⟩
      · rw [if_neg hb] at hR
        have d1 : decide (256 < ((pathL l).length : Int)) = false := decide_eq_false (by omega)
        have HE := Aside0.mk hR
        generalize (pathL l).length = n at HLN d1
        generalize (⟨(pathL l).toArray⟩ : ByteArray) = S at HST HE
        clear hi hil ho hw hR HI HO HW HC HT HU HP hb
        go_wp2_with (first
          | (go_at_call 65; (with_reducible refine HLN.out.mono ?_); rintro e w7 ⟨rfl, rfl⟩)
          | (go_at_call 66; (with_reducible refine HST.out.mono ?_); rintro e w8 ⟨rfl, hb⟩; have HB2 := Aside0.mk (HB.out.trans hb); clear hb))
        go_ret2
        exact ⟨by rw [HE.out]; rfl, HB2.out⟩
    | succ k1 =>
      have hi := HI.out
      have hlt : decide (i < (l.length : Int)) = true := decide_eq_true (by omega)
      have hlen := HL.out
      have hw1 : IntKind.i64.wrap (i + 1) = i + 1 := (i64_w _).trans (by unfold wrap64; omega)
      have hw2 : wrap64 (i + 1) = i + 1 := by unfold wrap64; omega
      have p1 : (0 ≤ i) = True := eq_true (by omega)
      have p2 : (i < (l.length : Int)) = True := eq_true (by omega)
      obtain ⟨ad, A1, c1, rfl, e0, e1, e2, hc1, hC1⟩ := at_T81 HC.out i (by omega) (by omega)
      have hxm : rd_T81 l i ∈ l := by rw [rd_T81_get l i (by omega) (by omega)]; exact List.getElem_mem _
      have htk : l.take (i + 1).toNat = l.take i.toNat ++ [rd_T81 l i] := by
        rw [show (i + 1).toNat = i.toNat + 1 by omega, take_succ' l i.toNat (by omega), rd_T81_get l i (by omega) (by omega)]
      have hux := HU.out _ hxm
      have hpl := pathL_take l (i + 1).toNat
      rw [htk, pathL_snoc, List.length_append] at hpl
      obtain ⟨x, hx⟩ : ∃ x, x = rd_T81 l i := ⟨_, rfl⟩
      rw [← hx] at e0 e1 e2 hc1 hC1 hxm htk hux hpl
      have hpP := HP.out
      have f0 : wr.cell? (ad.add (i.toNat * 3)) = some (.string x.f0) := by rw [HB.out.cell (World.block_lt_of_cell? w _ e0)]; exact e0
      have f1 : wr.cell? ⟨(ad.add (i.toNat * 3)).block, (ad.add (i.toNat * 3)).off + 1, none⟩ = some (.slice A1 x.f1.length c1) := by rw [HB.out.cell (World.block_lt_of_cell? w _ e1)]; exact e1
      have f2 : wr.cell? ⟨(ad.add (i.toNat * 3)).block, (ad.add (i.toNat * 3)).off + 2, none⟩ = some (.string x.f2) := by rw [HB.out.cell (World.block_lt_of_cell? w _ e2)]; exact e2
      have HX := Aside0.mk (show Kd.C (Kd.int .u32) w A1 x.f1.length x.f1 ∧ x.f1.length ≤ c1 ∧ U32L x.f1 ∧ x.f1.length ≤ 1000000000 from ⟨hC1, hc1, hux, by
        have h2 : x.f1.length ≤ (stepB x).length ∨ x.f1.length = 0 := by
          by_cases h : 0 < x.f1.length
          · left
            unfold stepB
            rw [if_pos h]
            simp only [List.length_append, List.length_cons]
            have h3 : x.f1.length ≤ (unitsL x.f1).length + 1 := units_ge x.f1
            omega
          · right; omega
        omega⟩)
      have HTK := Aside0.mk htk
      have HPL := Aside0.mk hpl
      have HXM := Aside0.mk hxm
      clear e0 e1 e2 hc1 hC1 hxm htk hux hx hpl
      go_upto_region 7 with (fail)
      obtain ⟨Y, hY⟩ : ∃ Y, Y = wr.alloc (.cells #[.string x.f0, .slice A1 x.f1.length c1, .string x.f2] 81) := ⟨_, rfl⟩
      obtain ⟨g6, hg6⟩ : ∃ g6, g6 = wr.heap.size := ⟨_, rfl⟩
      have K6 := Aside0.mk (show Y.heap[g6]? = some (.cells #[.string x.f0, .slice A1 x.f1.length c1, .string x.f2] 81 (0, 0)) by rw [hY, hg6]; exact heap_alloc_new wr _)
      have HBY := Aside0.mk (show Below w.heap.size w Y by rw [hY]; exact below_alloc HB.out _)
      have HWY := Aside0.mk (show Lib.IsBuilder 87 5 w.heap.size w.heap.size (Lib.byteCells (pathL (l.take i.toNat))) Y by rw [hY]; exact IsBuilder_below HW.out (below_alloc (Below.refl _ _) _))
      have HG := Aside0.mk (show g6 ≠ w.heap.size by
        have := HW.out
        have hlt2 : w.heap.size < wr.heap.size := by
          rcases this with h | h <;> exact h.lt
        omega)
      rw [← hY, ← hg6]
      clear hY hg6 f0 f1 f2 HB HW
      have k0 := (blk_cell K6.out 0).trans rfl
      have k1' := (blk_cell K6.out 1).trans rfl
      have k2' := (blk_cell K6.out 2).trans rfl
      have HN := Aside0.mk (show prop_Named.f 100 x.f0 = some (namedF x.f0) from named_eq 100 (by omega) x.f0)
      have HCT := Aside0.mk (fun W : World => Tryd.strings_Contains_one x.f2 47 W)
      by_cases hn : namedF x.f0 = true
      · rw [hn] at HN
        by_cases hu : 4 < x.f1.length
        · have du : decide (4 < (x.f1.length : Int)) = true := decide_eq_true (by omega)
          have HE := Aside0.mk (show R = (⟨#[]⟩, 1) by
            have hR := HR.out
            rw [if_neg (fun h => by
              have := List.all_eq_true.1 h x HXM.out
              rw [okP, decide_eq_false (show ¬ x.f1.length ≤ 4 by omega)] at this
              simp at this)] at hR
            exact hR)
          clear hi HX HTK HPL HWY HC HT HU HP hpP hlen
          go_wp2_with (first
            | (go_at_call 15; (with_reducible refine (prop_Named.calls 100 x.f0 _ _ HN.out).mono ?_); rintro e w1 ⟨rfl, hd⟩; have HBN := Aside0.mk (below_step HBY.out hd); have K6N := Aside0.mk (blk_below K6.out hd); have k0n := (blk_cell K6N.out 0).trans rfl; have k1n := (blk_cell K6N.out 1).trans rfl; have k2n := (blk_cell K6N.out 2).trans rfl)
            | (go_at_call 63; (with_reducible refine (HCT.out _).mono ?_); rintro e w1 ⟨rfl, rfl⟩))
          go_ret2
          exact ⟨by rw [HE.out]; rfl, HBN.out⟩
        · have du : decide (4 < (x.f1.length : Int)) = false := decide_eq_false (by omega)
          by_cases hs : 0 ≤ Lib.indexByte x.f2.data.toList 47
          · rw [decide_eq_true hs] at HCT
            have HE := Aside0.mk (show R = (⟨#[]⟩, 1) by
              have hR := HR.out
              rw [if_neg (fun h => by
                have := List.all_eq_true.1 h x HXM.out
                rw [okP, decide_eq_true hs] at this
                simp at this)] at hR
              exact hR)
            clear hi HX HTK HPL HWY HC HT HU HP hpP hlen
            go_wp2_with (first
              | (go_at_call 15; (with_reducible refine (prop_Named.calls 100 x.f0 _ _ HN.out).mono ?_); rintro e w1 ⟨rfl, hd⟩; have HBN := Aside0.mk (below_step HBY.out hd); have K6N := Aside0.mk (blk_below K6.out hd); have k0n := (blk_cell K6N.out 0).trans rfl; have k1n := (blk_cell K6N.out 1).trans rfl; have k2n := (blk_cell K6N.out 2).trans rfl)
              | (go_at_call 63; (with_reducible refine (HCT.out _).mono ?_); rintro e w1 ⟨rfl, rfl⟩))
            go_ret2
            exact ⟨by rw [HE.out]; rfl, HBN.out⟩
          · rw [decide_eq_false hs] at HCT
            have HOK := Aside0.mk (show okP x = true by unfold okP; rw [hn, decide_eq_false hs, decide_eq_true (show x.f1.length ≤ 4 by omega)]; rfl)
            have hstep : (stepB x).length = 1 + x.f0.size + (if 0 < x.f1.length then 1 + (unitsL x.f1).length else 0) + (if x.f2.size = 0 then 0 else 1 + x.f2.size) := by
              unfold stepB
              rw [List.length_append, List.length_append, List.length_cons, data_length]
              have a1 : (if 0 < x.f1.length then 64 :: unitsL x.f1 else []).length = if 0 < x.f1.length then 1 + (unitsL x.f1).length else 0 := by
                split
                · rw [List.length_cons]; omega
                · rfl
              have a2 : (if x.f2.size = 0 then [] else 58 :: x.f2.data.toList).length = if x.f2.size = 0 then 0 else 1 + x.f2.size := by
                split
                · rfl
                · rw [List.length_cons, data_length]; omega
              rw [a1, a2]
              omega
            have hpl := HPL.out
            have s1z : ((⟨#[47]⟩ : ByteArray) ++ x.f0).size = 1 + x.f0.size := by rw [ByteArray.size_append]; rfl
            have W1 := Aside0.mk (fun (W : World) (h : Lib.IsBuilder 87 5 w.heap.size w.heap.size (Lib.byteCells (pathL (l.take i.toNat))) W) (hB : w.heap.size ≤ W.heap.size) => writeL w.heap.size (pathL (l.take i.toNat)) ((⟨#[47]⟩ : ByteArray) ++ x.f0) W h (by omega) hB)
            have q1 : (9223372036854775807 < 1 + (x.f0.size : Int)) = False := eq_false (by omega)
            have q1n : (9223372036854775807 < 1 + x.f0.size) = False := eq_false (by omega)
            have q1m : (9223372036854775807 < (⟨#[47]⟩ : ByteArray).size + x.f0.size) = False := eq_false (by rw [show (⟨#[47]⟩ : ByteArray).size = 1 from rfl]; omega)
            have q1d : decide (9223372036854775807 < 1 + x.f0.size) = false := decide_eq_false (by omega)
            obtain ⟨P1, hP1⟩ : ∃ P1, P1 = pathL (l.take i.toNat) ++ ((⟨#[47]⟩ : ByteArray) ++ x.f0).data.toList := ⟨_, rfl⟩
            have hP1l : P1.length = (pathL (l.take i.toNat)).length + (1 + x.f0.size) := by rw [hP1, List.length_append, data_length, s1z]
            rw [← hP1] at W1
            by_cases hun : 0 < x.f1.length
            · have dun : decide ((0 : Int) < (x.f1.length : Int)) = true := decide_eq_true (by omega)
              have dunN : decide (0 < x.f1.length) = true := decide_eq_true hun
              have HSU := Aside0.mk (fun (W : World) (hT : QB.Tabs W) (hCW : Kd.C (Kd.int .u32) W A1 x.f1.length x.f1) => prop_ShowUnit.calls 1000000001 A1 c1 x.f1 (unitsB x.f1) W hT hCW HX.out.2.1 (units_eq 1000000001 x.f1 HX.out.2.2.1 HX.out.2.2.2 (by have := HX.out.2.2.2; omega)))
              rw [if_pos hun] at hstep
              have s2z : ((⟨#[64]⟩ : ByteArray) ++ unitsB x.f1).size = 1 + (unitsL x.f1).length := by rw [ByteArray.size_append]; simp [unitsB, ByteArray.size]
              have hub : (unitsB x.f1).size = (unitsL x.f1).length := by simp [unitsB, ByteArray.size]
              have q2 : (9223372036854775807 < 1 + ((unitsB x.f1).size : Int)) = False := eq_false (by omega)
              have q2n : (9223372036854775807 < 1 + (unitsB x.f1).size) = False := eq_false (by omega)
              have q2m : (9223372036854775807 < (⟨#[64]⟩ : ByteArray).size + (unitsB x.f1).size) = False := eq_false (by rw [show (⟨#[64]⟩ : ByteArray).size = 1 from rfl]; omega)
              have q2d : decide (9223372036854775807 < 1 + (unitsB x.f1).size) = false := decide_eq_false (by omega)
              have W2 := Aside0.mk (fun (W : World) (h : Lib.IsBuilder 87 5 w.heap.size w.heap.size (Lib.byteCells P1) W) (hB : w.heap.size ≤ W.heap.size) => writeL w.heap.size P1 ((⟨#[64]⟩ : ByteArray) ++ unitsB x.f1) W h (by omega) hB)
              obtain ⟨P2, hP2⟩ : ∃ P2, P2 = P1 ++ ((⟨#[64]⟩ : ByteArray) ++ unitsB x.f1).data.toList := ⟨_, rfl⟩
              have hP2l : P2.length = P1.length + (1 + (unitsL x.f1).length) := by rw [hP2, List.length_append, data_length, s2z]
              rw [← hP2] at W2
              by_cases har : x.f2.size = 0
              · have da : x.f2.toList.isEmpty = true := List.isEmpty_iff.2 ((empty_iff x.f2).2 har)
                have HEQ := Aside0.mk (show P2 = pathL (l.take (i + 1).toNat) by
                  rw [HTK.out, pathL_snoc, hP2, hP1]
                  unfold stepB
                  rw [if_pos hun, if_pos har]
                  simp [unitsB, List.append_assoc])
                clear hi hpP hlen hstep hpl hP1 hP1l s1z har hun hs hP2 hP2l s2z hub
                go_wp2_with (first
                  | (go_at_call 15; (with_reducible refine (prop_Named.calls 100 x.f0 _ _ HN.out).mono ?_); rintro e w1 ⟨rfl, hd⟩; have HBN := Aside0.mk (below_step HBY.out hd); have K6N := Aside0.mk (blk_below K6.out hd); have HWN := Aside0.mk (IsBuilder_below HWY.out hd); have k0n := (blk_cell K6N.out 0).trans rfl; have k1n := (blk_cell K6N.out 1).trans rfl; have k2n := (blk_cell K6N.out 2).trans rfl; clear hd)
                  | (go_at_call 63; (with_reducible refine (HCT.out _).mono ?_); rintro e w1 ⟨rfl, rfl⟩)
                  | (go_at_call 64; (with_reducible refine (W1.out _ HWN.out HBN.out.size).mono ?_); rintro e w2 ⟨rfl, hbw, hbb, hbk⟩; have HBp := Aside0.mk (HBN.out.trans hbb); have K6p := Aside0.mk (hbk g6 _ 81 _ HG.out (by decide) K6N.out); have HWp := Aside0.mk hbw; have k0p := (blk_cell K6p.out 0).trans rfl; have k1p := (blk_cell K6p.out 1).trans rfl; have k2p := (blk_cell K6p.out 2).trans rfl; clear hbw hbb hbk)
                  | (go_at_call 37; (with_reducible refine (HSU.out _ (HT.out.below HBp.out) (Kd.C_below HX.out.1 HBp.out)).mono ?_); rintro e w9 ⟨rfl, hd⟩; have HBs := Aside0.mk (below_step HBp.out hd); have K6s := Aside0.mk (blk_below K6p.out hd); have HWs := Aside0.mk (IsBuilder_below HWp.out hd); have k0s := (blk_cell K6s.out 0).trans rfl; have k1s := (blk_cell K6s.out 1).trans rfl; have k2s := (blk_cell K6s.out 2).trans rfl; clear hd)
                  | (go_at_call 64; (with_reducible refine (W2.out _ HWs.out HBs.out.size).mono ?_); rintro e w3 ⟨rfl, hbw, hbb, hbk⟩; have HBu := Aside0.mk (HBs.out.trans hbb); have K6u := Aside0.mk (hbk g6 _ 81 _ HG.out (by decide) K6s.out); have HWu := Aside0.mk hbw; have k0u := (blk_cell K6u.out 0).trans rfl; have k1u := (blk_cell K6u.out 1).trans rfl; have k2u := (blk_cell K6u.out 2).trans rfl; clear hbw hbb hbk))
                go_roundg k1
                case measure => omega
                case rel =>
                  have hi := HI.out
                  refine ⟨i + 1, rfl, ⟨by omega, by omega⟩, ⟨fun y hy => ?_⟩, ⟨?_⟩, HBu⟩
                  · rw [HTK.out] at hy
                    rcases List.mem_append.1 hy with hy | hy
                    · exact HO.out y hy
                    · rw [List.mem_singleton.1 hy]; exact HOK.out
                  · rw [← HEQ.out]
                    exact HWu.out
              · rw [if_neg har] at hstep
                have s3z : ((⟨#[58]⟩ : ByteArray) ++ x.f2).size = 1 + x.f2.size := by rw [ByteArray.size_append]; rfl
                have q3 : (9223372036854775807 < 1 + (x.f2.size : Int)) = False := eq_false (by omega)
                have q3n : (9223372036854775807 < 1 + x.f2.size) = False := eq_false (by omega)
                have q3m : (9223372036854775807 < (⟨#[58]⟩ : ByteArray).size + x.f2.size) = False := eq_false (by rw [show (⟨#[58]⟩ : ByteArray).size = 1 from rfl]; omega)
                have q3d : decide (9223372036854775807 < 1 + x.f2.size) = false := decide_eq_false (by omega)
                have da : x.f2.toList.isEmpty = false := List.isEmpty_eq_false_iff.2 (fun h => har ((empty_iff x.f2).1 h))
                have W3 := Aside0.mk (fun (W : World) (h : Lib.IsBuilder 87 5 w.heap.size w.heap.size (Lib.byteCells P2) W) (hB : w.heap.size ≤ W.heap.size) => writeL w.heap.size P2 ((⟨#[58]⟩ : ByteArray) ++ x.f2) W h (by omega) hB)
                obtain ⟨P3, hP3⟩ : ∃ P3, P3 = P2 ++ ((⟨#[58]⟩ : ByteArray) ++ x.f2).data.toList := ⟨_, rfl⟩
                rw [← hP3] at W3
                have HEQ := Aside0.mk (show P3 = pathL (l.take (i + 1).toNat) by
                  rw [HTK.out, pathL_snoc, hP3, hP2, hP1]
                  unfold stepB
                  rw [if_pos hun, if_neg har]
                  simp [unitsB, List.append_assoc])
                clear hi hpP hlen hstep hpl hP1 hP1l s1z har hun hs hP2 hP2l s2z hub hP3 s3z
                go_wp2_with (first
                  | (go_at_call 15; (with_reducible refine (prop_Named.calls 100 x.f0 _ _ HN.out).mono ?_); rintro e w1 ⟨rfl, hd⟩; have HBN := Aside0.mk (below_step HBY.out hd); have K6N := Aside0.mk (blk_below K6.out hd); have HWN := Aside0.mk (IsBuilder_below HWY.out hd); have k0n := (blk_cell K6N.out 0).trans rfl; have k1n := (blk_cell K6N.out 1).trans rfl; have k2n := (blk_cell K6N.out 2).trans rfl; clear hd)
                  | (go_at_call 63; (with_reducible refine (HCT.out _).mono ?_); rintro e w1 ⟨rfl, rfl⟩)
                  | (go_at_call 64; (with_reducible refine (W1.out _ HWN.out HBN.out.size).mono ?_); rintro e w2 ⟨rfl, hbw, hbb, hbk⟩; have HBp := Aside0.mk (HBN.out.trans hbb); have K6p := Aside0.mk (hbk g6 _ 81 _ HG.out (by decide) K6N.out); have HWp := Aside0.mk hbw; have k0p := (blk_cell K6p.out 0).trans rfl; have k1p := (blk_cell K6p.out 1).trans rfl; have k2p := (blk_cell K6p.out 2).trans rfl; clear hbw hbb hbk)
                  | (go_at_call 37; (with_reducible refine (HSU.out _ (HT.out.below HBp.out) (Kd.C_below HX.out.1 HBp.out)).mono ?_); rintro e w9 ⟨rfl, hd⟩; have HBs := Aside0.mk (below_step HBp.out hd); have K6s := Aside0.mk (blk_below K6p.out hd); have HWs := Aside0.mk (IsBuilder_below HWp.out hd); have k0s := (blk_cell K6s.out 0).trans rfl; have k1s := (blk_cell K6s.out 1).trans rfl; have k2s := (blk_cell K6s.out 2).trans rfl; clear hd)
                  | (go_at_call 64; (with_reducible refine (W2.out _ HWs.out HBs.out.size).mono ?_); rintro e w3 ⟨rfl, hbw, hbb, hbk⟩; have HBu := Aside0.mk (HBs.out.trans hbb); have K6u := Aside0.mk (hbk g6 _ 81 _ HG.out (by decide) K6s.out); have HWu := Aside0.mk hbw; have k0u := (blk_cell K6u.out 0).trans rfl; have k1u := (blk_cell K6u.out 1).trans rfl; have k2u := (blk_cell K6u.out 2).trans rfl; clear hbw hbb hbk)
                  | (go_at_call 64; (with_reducible refine (W3.out _ HWu.out HBu.out.size).mono ?_); rintro e w4 ⟨rfl, hbw, hbb, hbk⟩; have HBa := Aside0.mk (HBu.out.trans hbb); have K6a := Aside0.mk (hbk g6 _ 81 _ HG.out (by decide) K6u.out); have HWa := Aside0.mk hbw; have k0a := (blk_cell K6a.out 0).trans rfl; have k1a := (blk_cell K6a.out 1).trans rfl; have k2a := (blk_cell K6a.out 2).trans rfl; clear hbw hbb hbk))
                go_roundg k1
                case measure => omega
                case rel =>
                  have hi := HI.out
                  refine ⟨i + 1, rfl, ⟨by omega, by omega⟩, ⟨fun y hy => ?_⟩, ⟨?_⟩, HBa⟩
                  · rw [HTK.out] at hy
                    rcases List.mem_append.1 hy with hy | hy
                    · exact HO.out y hy
                    · rw [List.mem_singleton.1 hy]; exact HOK.out
                  · rw [← HEQ.out]
                    exact HWa.out
            · have dun : decide ((0 : Int) < (x.f1.length : Int)) = false := decide_eq_false (by omega)
              have dunN : decide (0 < x.f1.length) = false := decide_eq_false hun
              by_cases har : x.f2.size = 0
              · rw [if_neg hun, if_pos har] at hstep
                have da : x.f2.toList.isEmpty = true := List.isEmpty_iff.2 ((empty_iff x.f2).2 har)
                have HEQ := Aside0.mk (show P1 = pathL (l.take (i + 1).toNat) by
                  rw [HTK.out, pathL_snoc, hP1]
                  unfold stepB
                  rw [if_neg hun, if_pos har]
                  simp [unitsB, List.append_assoc])
                clear hi hpP hlen hstep hpl hP1 hP1l s1z har hun hs
                go_wp2_with (first
                  | (go_at_call 15; (with_reducible refine (prop_Named.calls 100 x.f0 _ _ HN.out).mono ?_); rintro e w1 ⟨rfl, hd⟩; have HBN := Aside0.mk (below_step HBY.out hd); have K6N := Aside0.mk (blk_below K6.out hd); have HWN := Aside0.mk (IsBuilder_below HWY.out hd); have k0n := (blk_cell K6N.out 0).trans rfl; have k1n := (blk_cell K6N.out 1).trans rfl; have k2n := (blk_cell K6N.out 2).trans rfl; clear hd)
                  | (go_at_call 63; (with_reducible refine (HCT.out _).mono ?_); rintro e w1 ⟨rfl, rfl⟩)
                  | (go_at_call 64; (with_reducible refine (W1.out _ HWN.out HBN.out.size).mono ?_); rintro e w2 ⟨rfl, hbw, hbb, hbk⟩; have HBp := Aside0.mk (HBN.out.trans hbb); have K6p := Aside0.mk (hbk g6 _ 81 _ HG.out (by decide) K6N.out); have HWp := Aside0.mk hbw; have k0p := (blk_cell K6p.out 0).trans rfl; have k1p := (blk_cell K6p.out 1).trans rfl; have k2p := (blk_cell K6p.out 2).trans rfl; clear hbw hbb hbk))
                go_roundg k1
                case measure => omega
                case rel =>
                  have hi := HI.out
                  refine ⟨i + 1, rfl, ⟨by omega, by omega⟩, ⟨fun y hy => ?_⟩, ⟨?_⟩, HBp⟩
                  · rw [HTK.out] at hy
                    rcases List.mem_append.1 hy with hy | hy
                    · exact HO.out y hy
                    · rw [List.mem_singleton.1 hy]; exact HOK.out
                  · rw [← HEQ.out]
                    exact HWp.out
              · rw [if_neg hun, if_neg har] at hstep
                have s3z : ((⟨#[58]⟩ : ByteArray) ++ x.f2).size = 1 + x.f2.size := by rw [ByteArray.size_append]; rfl
                have q3 : (9223372036854775807 < 1 + (x.f2.size : Int)) = False := eq_false (by omega)
                have q3n : (9223372036854775807 < 1 + x.f2.size) = False := eq_false (by omega)
                have q3m : (9223372036854775807 < (⟨#[58]⟩ : ByteArray).size + x.f2.size) = False := eq_false (by rw [show (⟨#[58]⟩ : ByteArray).size = 1 from rfl]; omega)
                have q3d : decide (9223372036854775807 < 1 + x.f2.size) = false := decide_eq_false (by omega)
                have da : x.f2.toList.isEmpty = false := List.isEmpty_eq_false_iff.2 (fun h => har ((empty_iff x.f2).1 h))
                have W3 := Aside0.mk (fun (W : World) (h : Lib.IsBuilder 87 5 w.heap.size w.heap.size (Lib.byteCells P1) W) (hB : w.heap.size ≤ W.heap.size) => writeL w.heap.size P1 ((⟨#[58]⟩ : ByteArray) ++ x.f2) W h (by omega) hB)
                obtain ⟨P3, hP3⟩ : ∃ P3, P3 = P1 ++ ((⟨#[58]⟩ : ByteArray) ++ x.f2).data.toList := ⟨_, rfl⟩
                rw [← hP3] at W3
                have HEQ := Aside0.mk (show P3 = pathL (l.take (i + 1).toNat) by
                  rw [HTK.out, pathL_snoc, hP3, hP1]
                  unfold stepB
                  rw [if_neg hun, if_neg har]
                  simp [unitsB, List.append_assoc])
                clear hi hpP hlen hstep hpl hP1 hP1l s1z har hun hs hP3 s3z
                go_wp2_with (first
                  | (go_at_call 15; (with_reducible refine (prop_Named.calls 100 x.f0 _ _ HN.out).mono ?_); rintro e w1 ⟨rfl, hd⟩; have HBN := Aside0.mk (below_step HBY.out hd); have K6N := Aside0.mk (blk_below K6.out hd); have HWN := Aside0.mk (IsBuilder_below HWY.out hd); have k0n := (blk_cell K6N.out 0).trans rfl; have k1n := (blk_cell K6N.out 1).trans rfl; have k2n := (blk_cell K6N.out 2).trans rfl; clear hd)
                  | (go_at_call 63; (with_reducible refine (HCT.out _).mono ?_); rintro e w1 ⟨rfl, rfl⟩)
                  | (go_at_call 64; (with_reducible refine (W1.out _ HWN.out HBN.out.size).mono ?_); rintro e w2 ⟨rfl, hbw, hbb, hbk⟩; have HBp := Aside0.mk (HBN.out.trans hbb); have K6p := Aside0.mk (hbk g6 _ 81 _ HG.out (by decide) K6N.out); have HWp := Aside0.mk hbw; have k0p := (blk_cell K6p.out 0).trans rfl; have k1p := (blk_cell K6p.out 1).trans rfl; have k2p := (blk_cell K6p.out 2).trans rfl; clear hbw hbb hbk)
                  | (go_at_call 64; (with_reducible refine (W3.out _ HWp.out HBp.out.size).mono ?_); rintro e w4 ⟨rfl, hbw, hbb, hbk⟩; have HBa := Aside0.mk (HBp.out.trans hbb); have K6a := Aside0.mk (hbk g6 _ 81 _ HG.out (by decide) K6p.out); have HWa := Aside0.mk hbw; have k0a := (blk_cell K6a.out 0).trans rfl; have k1a := (blk_cell K6a.out 1).trans rfl; have k2a := (blk_cell K6a.out 2).trans rfl; clear hbw hbb hbk))
                go_roundg k1
                case measure => omega
                case rel =>
                  have hi := HI.out
                  refine ⟨i + 1, rfl, ⟨by omega, by omega⟩, ⟨fun y hy => ?_⟩, ⟨?_⟩, HBa⟩
                  · rw [HTK.out] at hy
                    rcases List.mem_append.1 hy with hy | hy
                    · exact HO.out y hy
                    · rw [List.mem_singleton.1 hy]; exact HOK.out
                  · rw [← HEQ.out]
                    exact HWa.out
      · have hn2 := Bool.eq_false_iff.2 hn
        rw [hn2] at HN
        have HE := Aside0.mk (show R = (⟨#[]⟩, 1) by
          have hR := HR.out
          rw [if_neg (fun h => by
            have := List.all_eq_true.1 h x HXM.out
            rw [okP, hn2] at this
            simp at this)] at hR
          exact hR)
        clear hi HX HTK HPL HWY HC HT HU HP hpP hlen
        go_wp2_with (first
          | (go_at_call 15; (with_reducible refine (prop_Named.calls 100 x.f0 _ _ HN.out).mono ?_); rintro e w1 ⟨rfl, hd⟩; have HBN := Aside0.mk (below_step HBY.out hd); have K6N := Aside0.mk (blk_below K6.out hd); have k0n := (blk_cell K6N.out 0).trans rfl; have k1n := (blk_cell K6N.out 1).trans rfl; have k2n := (blk_cell K6N.out 2).trans rfl)
          | (go_at_call 63; (with_reducible refine (HCT.out _).mono ?_); rintro e w1 ⟨rfl, rfl⟩))
        go_ret2
        exact ⟨by rw [HE.out]; rfl, HBN.out⟩
end Go.Proofs.YtlhnaplmphdhlaaDoor.Q
end
section
set_option linter.unusedSimpArgs false
set_option linter.unusedVariables false
namespace Go.Proofs.YtlhnaplmphdhlaaDoor.Q
open Go.RowKit Go.Proofs.YtlhnaplmphdhlaaDoorW.PrintWords Go.Proofs.YtlhnaplmphdhlaaDoorW.PrintLast
def ixC (c : UInt8) (s : ByteArray) : Int := Lib.indexByte s.data.toList c
def headC (c : UInt8) (s : ByteArray) : ByteArray := if 0 ≤ ixC c s then s.extract 0 (ixC c s).toNat else s
def tailC (c : UInt8) (s : ByteArray) : ByteArray := if 0 ≤ ixC c s then s.extract (ixC c s + 1).toNat s.size else ⟨#[]⟩
theorem ixC_lt (c : UInt8) (s : ByteArray) (h : 0 ≤ ixC c s) : ixC c s < s.size := by
  obtain ⟨o, ho⟩ := Int.eq_ofNat_of_zero_le h
  have h1 := (Lib.indexByte_some ho).1
  have h2 := (List.getElem?_eq_some_iff.1 h1).1
  rw [ho]
  have e : s.data.toList.length = s.size := Array.length_toList
  have : o < s.size := e ▸ h2
  omega
set_option maxHeartbeats 4000000 in
set_option maxRecDepth 100000 in
theorem cutIn_calls (c : UInt8) (s : ByteArray) (w : World) (hs : s.size ≤ 140737488351232) : Calls Tryd.prog 98 #[.string s, .string ⟨#[c]⟩] w fun e w' => e = .returned (.tuple #[.string (headC c s), .string (tailC c s), .bool (decide (0 ≤ ixC c s))]) ∧ Below w.heap.size w w' := by
  obtain ⟨i, hi⟩ : ∃ i, i = ixC c s := ⟨_, rfl⟩
  have HI := Aside0.mk (show ∀ W : World, Calls Tryd.prog 99 #[.string s, .string ⟨#[c]⟩] W (fun e w' => e = .returned (.int .i64 i) ∧ w' = W) from fun W => by rw [hi]; exact Tryd.stringslite_Index_one s c W)
  have hl : headC c s = if 0 ≤ i then s.extract 0 i.toNat else s := by rw [hi]; rfl
  have hr : tailC c s = if 0 ≤ i then s.extract (i + 1).toNat s.size else ⟨#[]⟩ := by rw [hi]; rfl
  rw [← hi, hl, hr]
  clear hl hr
  by_cases h0 : 0 ≤ i
  · have hlt := ixC_lt c s (hi ▸ h0)
    rw [← hi] at hlt
    rw [if_pos h0, if_pos h0]
    have d0 : decide (0 ≤ i) = true := decide_eq_true h0
    have q1 : (0 ≤ i) = True := eq_true h0
    have q2 : (i ≤ (s.size : Int)) = True := eq_true (by omega)
    have q3 : (0 ≤ i + 1) = True := eq_true (by omega)
    have q4 : (i + 1 ≤ (s.size : Int)) = True := eq_true (by omega)
    have q5 : IntKind.i64.wrap (i + 1) = i + 1 := (i64_w _).trans (by unfold wrap64; omega)
    rw [d0]
    clear hi h0 hlt hs
    go_enter Tryd.func98, Tryd.ntmps98
    go_wp2_with (go_at_call 99; (with_reducible refine (HI.out _).mono ?_); rintro e w7 ⟨rfl, rfl⟩)
    go_quiet (fail)
    go_wp2
    exact bodyPost_ret (results_tmp3 rfl _ _ _) rfl ⟨rfl, pw_below_drewN (Below.refl _ _) _⟩
  · rw [if_neg h0, if_neg h0]
    have d0 : decide (0 ≤ i) = false := decide_eq_false h0
    rw [d0]
    clear hi h0 hs
    go_enter Tryd.func98, Tryd.ntmps98
    go_wp2_with (go_at_call 99; (with_reducible refine (HI.out _).mono ?_); rintro e w7 ⟨rfl, rfl⟩)
    exact bodyPost_ret (results_tmp3 rfl _ _ _) rfl ⟨rfl, Below.refl _ _⟩
set_option maxHeartbeats 4000000 in
theorem cut_calls (c : UInt8) (s : ByteArray) (w : World) (hs : s.size ≤ 140737488351232) : Calls Tryd.prog 80 #[.string s, .string ⟨#[c]⟩] w fun e w' => e = .returned (.tuple #[.string (headC c s), .string (tailC c s), .bool (decide (0 ≤ ixC c s))]) ∧ Below w.heap.size w w' := by
  have HC := Aside0.mk (fun W : World => cutIn_calls c s W hs)
  generalize headC c s = l1 at HC ⊢
  generalize tailC c s = l2 at HC ⊢
  generalize decide (0 ≤ ixC c s) = b at HC ⊢
  go_enter Tryd.func80, Tryd.ntmps80
  go_wp2_with (go_at_call 98; (with_reducible refine (HC.out _).mono ?_); rintro e w7 ⟨rfl, hb⟩; have HB := Aside0.mk hb; clear hb)
  exact bodyPost_ret (results_tmp3 rfl _ _ _) rfl ⟨rfl, HB.out⟩
/-- strings.Cut in the printed form, at a separator of one byte. -/
def strings_Cut.f (s p : ByteArray) : Option (ByteArray × ByteArray × Bool) := if s.size ≤ 140737488351232 then (match p.data.toList with | [c] => some (headC c s, tailC c s, decide (0 ≤ ixC c s)) | _ => none) else none
theorem strings_Cut.calls (a0 a1 : ByteArray) (r1 r2 : ByteArray) (r3 : Bool) (w : World) (h : strings_Cut.f a0 a1 = some (r1, r2, r3)) : Calls Tryd.prog 80 #[.string a0, .string a1] w fun e w' => e = .returned (.tuple #[.string r1, .string r2, .bool r3]) ∧ Below w.heap.size w w' := by
  unfold strings_Cut.f at h
  split at h
  · rename_i hs
    split at h
    · rename_i c hc
      have e : a1 = ⟨#[c]⟩ := by
        apply ByteArray.ext
        apply Array.ext'
        exact hc
      obtain ⟨rfl, h2⟩ := Prod.mk.inj (Option.some.inj h)
      obtain ⟨rfl, rfl⟩ := Prod.mk.inj h2
      rw [e]
      exact cut_calls c a0 w hs
    · cases h
  · cases h
end Go.Proofs.YtlhnaplmphdhlaaDoor.Q
end
section
namespace Go.Proofs.YtlhnaplmphdhlaaDoor.Q
open Go.RowKit Go.Shelf
/-- How a round may be left. -/
def RoundPost (Kp : World → World → Prop) (I : Nat → World → Prop) (Ix : Code → Nat → World → Prop) (k : Nat) (W : World) : Exit → Act → World → Prop
  | .normal, _, W' => KeepsOthers W W' ∧ Kp W W' ∧ I k W'
  | .ret, _, W' => KeepsOthers W W' ∧ Ix .ret k W'
  | .exit id, _, W' => KeepsOthers W W' ∧ Ix (.exit id) k W'
  | _, _, _ => False
/-- The iterator hands on the list L, one by one; between two rounds it goes by Ab; a round that goes on keeps Kp. -/
def SeqL (n : Nat) (P : Program) (gf : Nat) (lb : Array Value) (Ab Kp : World → World → Prop) (L : List (Array Value)) (w : World) : Prop :=
  ∀ (l : Nat) (J Jx : Nat → World → Prop) (W : World), Below w.heap.size w W → (∀ k A B, J k A → Ab A B → J k B) → (∀ k A B, Jx k A → Ab A B → Jx k B) →
    (∀ (k : Nat) (hk : k < L.length) (A : World), J k A → YieldAt Fence.wide (n - 1) P l L[k] A fun e B => (e = .returned (.bool true) ∧ J (k + 1) B ∧ Kp A B) ∨ (e = .returned (.bool false) ∧ Jx (k + 1) B)) →
    J 0 W → CallsIn Fence.wide n P gf (#[.func (.yield l) #[] #[]] ++ lb) W fun e B => (∃ v, e = .returned v) ∧ (J L.length B ∨ ∃ k, k ≤ L.length ∧ Jx k B)
section
variable {n : Nat} {P : Program}
theorem wp_rangeL {g : Operand} {ps : Array Tmp} {assign body : Code} {Q : Exit → Act → World → Prop} {a : Act} {w : World} (h1 : 1 ≤ n) {gf : Nat} {lb : Array Value} (hg : a.eval g = .func (.func gf) #[] lb) (eg : ∀ args w, (callFunc gf args).run P w = .ok (.enter gf args) w)
    {Ab Kp : World → World → Prop} {L : List (Array Value)} (hseq : SeqL (n - 1) P gf lb Ab Kp L w) (hAb : ∀ {A B : World} {i : Nat} {o : Obj}, Ab A B → A.heap[i]? = some o → o.isCells = false → B.heap[i]? = some o)
    (hKt : ∀ {A B C : World}, Kp A B → Kp B C → Kp A C) (hKb : ∀ (W : World) (l : Nat) (o o' : Obj), w.heap.size ≤ l → W.heap[l]? = some o → o.isCells = false → o.isWalk = false → Kp W (W.putObj l o')) (hps : ∀ x ∈ L, x.size = ps.size)
    (I : Nat → World → Prop) (Ix : Code → Nat → World → Prop) (hI : OwnFrom w.heap.size I) (hIx : ∀ c, OwnFrom w.heap.size (Ix c)) (hIA : ∀ k A B, I k A → Ab A B → I k B) (hXA : ∀ c k A B, Ix c k A → Ab A B → Ix c k B) (h0 : I 0 w) (a₁ : Nat → Act)
    (hassign : ∀ (l k : Nat) (hk : k < L.length) (W : World) (K : Act → World → Prop), K (a₁ k) W →
      assign.wpIn (Fence.wide.inRound l) (n - 1 - 1) P (Exit.then K (fun _ _ _ => False)) { tmps := (ps.zip L[k]).foldl (fun t (p, v) => t.setIfInBounds p v) a.tmps, defers := [] } W)
    (hbody : ∀ (l k : Nat) (W : World), k < L.length → I k W → body.wpIn (Fence.wide.inRound l) (n - 1 - 1) P (RoundPost Kp I Ix (k + 1) W) (a₁ k) W)
    (hdone : ∀ (D : Nat) (W : World), w.heap.size ≤ D → I L.length W → W.heap[D]? = some (.deferred (some [])) → Q .normal { a with defers := { target := .collected D, args := #[] } :: a.defers } W)
    (hstop : ∀ (D : Nat) (c : Code) (k : Nat) (W : World), w.heap.size ≤ D → k ≤ L.length → Ix c k W → W.heap[D]? = some (.deferred (some [])) → c.wpIn Fence.wide n P Q { a with defers := { target := .collected D, args := #[] } :: a.defers } W) :
    (Code.rangeFunc g ps assign body).wpIn Fence.wide n P Q a w := by
  refine wpIn_rangeFunc ?_
  intro fn hfn
  obtain ⟨R, hR⟩ : ∃ R : LoopState → Option Code → Loop, R = fun st pe => { state := st, pending := pe, fn, tmps := a.tmps, params := ps, assign, body, defers := w.heap.size } := ⟨_, rfl⟩
  obtain ⟨V, hV⟩ : ∃ V, V = (w.alloc (.deferred (some []))).alloc (.loop (R .ready none)) := ⟨_, rfl⟩
  have sL : V.heap[w.heap.size + 1]? = some (.loop (R .ready none)) := by
    have := World.alloc_heap_new (w.alloc (.deferred (some []))) (.loop (R .ready none))
    rw [World.size_alloc] at this
    rw [hV]; exact this
  have sD : V.heap[w.heap.size]? = some (.deferred (some [])) := by rw [hV]; exact (Below.heap_alloc _ _ _ (by simp)).trans (World.alloc_heap_new w _)
  have sI : I 0 V := by rw [hV]; exact hI.alloc _ (hI.alloc _ h0)
  have sB : Below w.heap.size w V := by rw [hV]; exact ((Below.refl _ w).alloc (Nat.le_refl _) _).alloc (by simp) _
  refine ⟨w.heap.size + 1, [{ target := .collected w.heap.size, args := #[] }], V, { target := .fn (.func gf) lb, args := #[.func (.yield (w.heap.size + 1)) #[] #[]] }, V, gf, #[.func (.yield (w.heap.size + 1)) #[] #[]] ++ lb, V, ?_, ?_, ?_, ?_, fun _ => h1, ?_⟩
  · rw [hV, hR]; exact run_enterLoop_outer _ _ _ _ _
  · simp only [resolve, hg]
    simp [go_sem]
  · intro f' hf'; simp [Target.leads] at hf'; subst hf'; trivial
  · simp [invoke, go_sem, eg]
  · refine (hseq (w.heap.size + 1) (fun k W => I k W ∧ W.heap[w.heap.size + 1]? = some (.loop (R .ready none)) ∧ W.heap[w.heap.size]? = some (.deferred (some [])))
      (fun k W => ∃ c, Ix c k W ∧ W.heap[w.heap.size + 1]? = some (.loop (R .done (some c))) ∧ W.heap[w.heap.size]? = some (.deferred (some []))) V sB
      (fun k A B h hab => ⟨hIA k A B h.1 hab, hAb hab h.2.1 rfl, hAb hab h.2.2 rfl⟩) (fun k A B h hab => by obtain ⟨c, h1, h2, h3⟩ := h; exact ⟨c, hXA c k A B h1 hab, hAb hab h2 rfl, hAb hab h3 rfl⟩) ?_ ⟨sI, sL, sD⟩).mono ?_
    · rintro k hk W ⟨hi, hl, hd⟩
      have hlt : w.heap.size + 1 < W.heap.size := (Array.getElem?_eq_some_iff.1 hl).1
      have hy := run_yield (P := P) (args := L[k]) hl (by rw [hR]; exact hps _ (List.getElem_mem hk))
      rw [hR] at hy
      refine ⟨fn, _, assign, body, hy, roundIn_of_wpIn hfn (hassign _ k hk W _ ⟨_, run_beginRound hl (by rw [hR]), ?_⟩)⟩
      obtain ⟨U, hU⟩ : ∃ U, U = W.putObj (w.heap.size + 1) (.loop { R .ready none with state := .busy }) := ⟨_, rfl⟩
      have uL : U.heap[w.heap.size + 1]? = some (.loop { R .ready none with state := .busy }) := by rw [hU]; exact World.putObj_heap_same hlt
      have uD : U.heap[w.heap.size]? = some (.deferred (some [])) := by rw [hU]; exact (World.putObj_heap_other (by omega)).trans hd
      have uK : Kp W U := by rw [hU]; exact hKb _ _ _ _ (by omega) hl rfl rfl
      have uI : I k U := by rw [hU]; exact hI.putObj _ hi (by omega) hl rfl
      rw [← hU]
      refine wpIn_mono (hbody _ k U hk uI) ?_
      have last : ∀ (jump : Option Code) (X : World), KeepsOthers U X → X.heap[w.heap.size + 1]? = some (.loop { R .ready none with state := .busy }) ∧ ∃ Y, Y = X.putObj (w.heap.size + 1) (.loop (R (if jump.isNone then .ready else .done) jump)) ∧ (Instr.endRound (w.heap.size + 1) jump).run P X = .ok (.bool jump.isNone) Y ∧
          Y.heap[w.heap.size + 1]? = some (.loop (R (if jump.isNone then .ready else .done) jump)) ∧ Y.heap[w.heap.size]? = some (.deferred (some [])) := fun jump X hx => by
        have xL := hx.same _ _ uL rfl
        have hr := run_endRound (P := P) jump xL
        refine ⟨xL, _, rfl, ?_, World.putObj_heap_same (Array.getElem?_eq_some_iff.1 xL).1, (World.putObj_heap_other (by omega)).trans (hx.same _ _ uD rfl)⟩
        rw [hR] at hr ⊢
        exact hr
      rintro e a3 X hp
      cases e with
      | normal =>
        obtain ⟨x1, x2, x3⟩ := hp
        obtain ⟨xL, Y, hY, hr, yL, yD⟩ := last none X x1
        exact ⟨_, _, hr, .inl ⟨rfl, ⟨by rw [hY]; exact hI.putObj _ x3 (by omega) xL rfl, yL, yD⟩, hKt (hKt uK x2) (by rw [hY]; exact hKb _ _ _ _ (by omega) xL rfl rfl)⟩⟩
      | ret =>
        obtain ⟨x1, x3⟩ := hp
        obtain ⟨xL, Y, hY, hr, yL, yD⟩ := last (some .ret) X x1
        exact ⟨_, _, hr, .inr ⟨rfl, .ret, by rw [hY]; exact (hIx _).putObj _ x3 (by omega) xL rfl, yL, yD⟩⟩
      | exit id =>
        obtain ⟨x1, x3⟩ := hp
        obtain ⟨xL, Y, hY, hr, yL, yD⟩ := last (some (.exit id)) X x1
        exact ⟨_, _, hr, .inr ⟨rfl, .exit id, by rw [hY]; exact (hIx _).putObj _ x3 (by omega) xL rfl, yL, yD⟩⟩
      | goto t => exact hp.elim
      | panic ch => exact hp.elim
      | outgrown => exact hp.elim
    · rintro e X ⟨⟨v, rfl⟩, (⟨hi, hl, hd⟩ | ⟨k, hk, c, hi, hl, hd⟩)⟩
      · have hr := run_endLoop (P := P) hl (by rw [hR]; simp)
        rw [hR] at hr
        exact ⟨none, _, hr, hdone _ _ (Nat.le_refl _) (hI.putObj _ hi (by omega) hl rfl) ((World.putObj_heap_other (by omega)).trans hd)⟩
      · have hr := run_endLoop (P := P) hl (by rw [hR]; simp)
        rw [hR] at hr
        exact ⟨some c, _, hr, hstop _ c k _ (Nat.le_refl _) hk ((hIx c).putObj _ hi (by omega) hl rfl) ((World.putObj_heap_other (by omega)).trans hd)⟩
end
end Go.Proofs.YtlhnaplmphdhlaaDoor.Q
end
section
namespace Go.Proofs.YtlhnaplmphdhlaaDoor.Q
open Go.RowKit Go.Shelf Go.Proofs.YtlhnaplmphdhlaaDoorW.PrintWords Go.Proofs.YtlhnaplmphdhlaaDoorW.PrintLast
attribute [local go_sem] Oper.semAt_some
/-- The pieces of a row of bytes at c. -/
def cuts (c : UInt8) : List UInt8 → List (List UInt8)
  | [] => [[]]
  | a :: l => if a = c then [] :: cuts c l else match cuts c l with | p :: ps => (a :: p) :: ps | [] => [[a]]
theorem cuts_ne (c : UInt8) : ∀ l, cuts c l ≠ []
  | [] => by simp [cuts]
  | a :: l => by
    rw [cuts]
    split
    · simp
    · split <;> simp
theorem cuts_none (c : UInt8) : ∀ {l : List UInt8}, Lib.indexByte l c = -1 → cuts c l = [l]
  | [], _ => rfl
  | a :: l, h => by
    have h0 := Lib.indexByte_none h 0
    have ha : ¬ a = c := fun e => h0 (by rw [e]; rfl)
    have hl : Lib.indexByte l c = -1 := by
      rw [Lib.indexByte] at h
      have hb : (a == c) = false := by simp [ha]
      rw [hb] at h
      simp only [Bool.false_eq_true, if_false] at h
      split at h
      · rename_i h1; exact eq_of_beq h1
      · have := Lib.indexByte_ge l c
        omega
    rw [cuts, if_neg ha, cuts_none c hl]
theorem cuts_some (c : UInt8) : ∀ {l : List UInt8} {i : Nat}, Lib.indexByte l c = i → cuts c l = l.take i :: cuts c (l.drop (i + 1))
  | [], i, h => by rw [Lib.indexByte] at h; omega
  | a :: l, i, h => by
    rw [cuts]
    by_cases ha : a = c
    · have h0 : i = 0 := by
        rw [Lib.indexByte, if_pos (by simp [ha])] at h
        omega
      rw [if_pos ha, h0]
      rfl
    · rw [if_neg ha]
      have hb : (a == c) = false := by simp [ha]
      rw [Lib.indexByte, hb] at h
      simp only [Bool.false_eq_true, if_false] at h
      split at h
      · omega
      · have := Lib.indexByte_ge l c
        obtain ⟨j, hj⟩ : ∃ j : Nat, Lib.indexByte l c = j := ⟨(Lib.indexByte l c).toNat, by rename_i h1; have h2 : Lib.indexByte l c ≠ -1 := fun e => h1 (by rw [e]; rfl); omega⟩
        rw [hj] at h
        obtain rfl : i = j + 1 := by omega
        rw [cuts_some c hj]
        rfl
def pieceV (p : List UInt8) : Array Value := #[.string ⟨p.toArray⟩]
/-- What the iterator does between two rounds: it writes its own cell. -/
def AbS (Bs : Nat) (A B : World) : Prop := ∃ u, B = A.setCell ⟨Bs, 0, none⟩ u
/-- What a round keeps: the iterator's three cells. -/
def KpS (Bs Bp Bz : Nat) (W W' : World) : Prop := W.heap.size ≤ W'.heap.size ∧ ∀ i, i = Bs ∨ i = Bp ∨ i = Bz → i < W.heap.size → W'.heap[i]? = W.heap[i]?
theorem KpS.trans {Bs Bp Bz : Nat} {A B C : World} (h : KpS Bs Bp Bz A B) (k : KpS Bs Bp Bz B C) : KpS Bs Bp Bz A C :=
  ⟨Nat.le_trans h.1 k.1, fun i hi hl => (k.2 i hi (Nat.lt_of_lt_of_le hl h.1)).trans (h.2 i hi hl)⟩
theorem KpS.heap {Bs Bp Bz : Nat} {A B : World} (h : KpS Bs Bp Bz A B) {i : Nat} (hi : i = Bs ∨ i = Bp ∨ i = Bz) {o : Obj} (ho : A.heap[i]? = some o) : B.heap[i]? = some o := (h.2 i hi (Array.getElem?_eq_some_iff.1 ho).1).trans ho
theorem extract_take (s : ByteArray) (i : Nat) : s.extract 0 i = ⟨(s.data.toList.take i).toArray⟩ := by
  apply ByteArray.ext
  apply Array.ext'
  rw [Lib.extract_data, List.drop_zero, Nat.sub_zero]
theorem extract_drop (s : ByteArray) (i : Nat) : s.extract i s.size = ⟨(s.data.toList.drop i).toArray⟩ := by
  apply ByteArray.ext
  apply Array.ext'
  rw [Lib.extract_data]
  show _ = s.data.toList.drop i
  rw [List.take_of_length_le]
  rw [List.length_drop]
  exact Nat.le_refl _
def strSz (W : World) (Bs : Nat) : Nat := match W.cell? ⟨Bs, 0, none⟩ with | some (.string s) => s.size | _ => 0
set_option maxRecDepth 100000 in
set_option maxHeartbeats 4000000 in
theorem split_seq (c : UInt8) (n : Nat) (hn : 1 ≤ n) (Bs Bp Bz : Nat) (hsp : Bs ≠ Bp) (hsz : Bs ≠ Bz) (s : ByteArray) (hs : s.size ≤ 140737488351232) (w : World)
    (hBs : w.heap[Bs]? = some (.cells #[.string s] 9 (0, 0))) (hBp : w.heap[Bp]? = some (.cells #[.string ⟨#[c]⟩] 9 (0, 0))) (hBz : w.heap[Bz]? = some (.cells #[.int .i64 0] 3 (0, 0))) :
    SeqL n Tryd.prog 92 #[.pointer (some ⟨Bp, 0, none⟩), .pointer (some ⟨Bs, 0, none⟩), .pointer (some ⟨Bz, 0, none⟩)] (AbS Bs) (KpS Bs Bp Bz) ((cuts c s.data.toList).map pieceV) w := by
  intro l J Jx W hW hJ hJx hY h0
  have hBs := blk_below hBs hW
  have hBp := blk_below hBp hW
  have hBz := blk_below hBz hW
  clear hW
  obtain ⟨L, hL⟩ : ∃ L, L = (cuts c s.data.toList).map pieceV := ⟨_, rfl⟩
  rw [← hL] at hY ⊢
  refine callsIn_of_wp Tryd.func92 rfl trivial ?_ rfl
  simp only [Tryd.ntmps92, List.size_toArray, List.length_cons, List.length_nil, Nat.reduceAdd, Nat.reduceSub, Array.replicate_succ, Array.replicate_zero, List.push_toArray, List.append_toArray, List.nil_append, List.cons_append]
  have hc1 := (blk_cell hBp 0).trans rfl
  have hone : ((1 : Int) == 0) = false := by decide
  gi_wp2
  gi_loopw [7] (fun v wr => ∃ (t : ByteArray) (k : Nat), t.size ≤ 140737488351232 ∧ Aside0 (L.drop k = (cuts c t.data.toList).map pieceV) ∧ J k wr ∧ wr.heap[Bs]? = some (.cells #[.string t] 9 (0, 0)) ∧ wr.heap[Bp]? = some (.cells #[.string ⟨#[c]⟩] 9 (0, 0)) ∧ wr.heap[Bz]? = some (.cells #[.int .i64 0] 3 (0, 0)))
    (fun _ wr => strSz wr Bs)
  case atStart => exact ⟨s, 0, hs, ⟨by rw [hL]; rfl⟩, h0, hBs, hBp, hBz⟩
  case round =>
    obtain ⟨t, k, ht, HD, hJk, hs1, hp1, hz1⟩ := hrel
    clear hc1 hBs hBp hBz h0
    obtain ⟨x, hx⟩ : ∃ x, x = Lib.indexByte t.data.toList c := ⟨_, rfl⟩
    have HI := Aside0.mk (show ∀ X : World, Calls Tryd.prog 81 #[.string t, .string ⟨#[c]⟩] X (fun e w' => e = .returned (.int .i64 x) ∧ w' = X) from fun X => by rw [hx]; exact Tryd.strings_Index_one t c X)
    have hcs := (blk_cell hs1 0).trans rfl
    have hcp := (blk_cell hp1 0).trans rfl
    have hcz := (blk_cell hz1 0).trans rfl
    have hge := Lib.indexByte_ge t.data.toList c
    rw [← hx] at hge
    have hkl : k < L.length := by
      have h1 := congrArg List.length HD.out
      rw [List.length_drop, List.length_map] at h1
      have h2 := List.length_pos_iff.2 (cuts_ne c t.data.toList)
      omega
    have hLk : L[k] = (L.drop k)[0]'(by rw [List.length_drop]; omega) := by simp
    by_cases hneg : x < 0
    · have d1 : decide (x < 0) = true := decide_eq_true hneg
      have hcut := cuts_none c (show Lib.indexByte t.data.toList c = -1 by omega)
      have hLt : L[k] = #[.string t] := by
        rw [hLk]
        have : (L.drop k) = [#[.string t]] := by rw [HD.out, hcut]; simp [pieceV]
        simp [this]
      have hend : k + 1 = L.length := by
        have h1 := congrArg List.length HD.out
        rw [List.length_drop, hcut] at h1
        simp at h1
        omega
      have HE := Aside0.mk hend
      obtain ⟨fn, tmps, assign, body, hy, hR⟩ := hY k hkl wr hJk
      rw [hLt] at hy
      clear hx hge hneg HD hLk hLt hend hcut
      gi_wp2_with (refine ⟨trivial, ?_⟩; gi_at_call 81; (with_reducible refine (callsIn_wide.2 (HI.out _)).mono ?_); rintro e w7 ⟨rfl, rfl⟩)
      gi_wp2
      refine hR.mono ?_
      rintro e W3 (⟨rfl, hJ3, hk3⟩ | ⟨rfl, hJx3⟩)
      · gi_wp2
        go_end0
        exact ⟨⟨_, rfl⟩, .inl (HE.out ▸ hJ3)⟩
      · gi_wp2
        go_end0
        exact ⟨⟨_, rfl⟩, .inr ⟨k + 1, Nat.le_of_eq HE.out, hJx3⟩⟩
    · obtain ⟨i, hi⟩ : ∃ i : Nat, x = i := ⟨x.toNat, by omega⟩
      subst hi
      have d1 : decide ((i : Int) < 0) = false := decide_eq_false hneg
      have hcut := cuts_some c hx.symm
      have hil : i < t.size := by
        have h1 := (Lib.indexByte_some hx.symm).1
        have h2 := (List.getElem?_eq_some_iff.1 h1).1
        rwa [show t.data.toList.length = t.size from Array.length_toList] at h2
      have hLt : L[k] = #[.string (t.extract 0 i)] := by
        rw [hLk]
        have : (L.drop k) = #[.string (t.extract 0 i)] :: (cuts c (t.data.toList.drop (i + 1))).map pieceV := by rw [HD.out, hcut, extract_take]; rfl
        simp [this]
      have HD2 := Aside0.mk (show L.drop (k + 1) = (cuts c (t.extract (i + 1) t.size).data.toList).map pieceV by
        rw [← List.drop_drop, HD.out, hcut, extract_drop]
        rfl)
      have hsz2 : (t.extract (i + 1) t.size).size = t.size - (i + 1) := by
        rw [extract_drop]
        show (List.drop (i + 1) t.data.toList).toArray.size = _
        simp
      obtain ⟨fn, tmps, assign, body, hy, hR⟩ := hY k hkl wr hJk
      rw [hLt] at hy
      have q1 : ((i : Int) ≤ (t.size : Int)) = True := eq_true (by omega)
      have q2 : (0 ≤ (i : Int) + 1) = True := eq_true (by omega)
      have q3 : ((i : Int) + 1 ≤ (t.size : Int)) = True := eq_true (by omega)
      have q4 : IntKind.i64.wrap ((i : Int) + 1) = (i : Int) + 1 := (i64_w _).trans (by unfold wrap64; omega)
      have q5 : IntKind.i64.wrap (i : Int) = (i : Int) := (i64_w _).trans (by unfold wrap64; omega)
      have q6 : ((i : Int) + 1).toNat = i + 1 := by omega
      have HS := Aside0.mk hsz2
      have HT := Aside0.mk ht
      have HIL := Aside0.mk hil
      clear hx hge hneg HD hLk hLt hcut hsz2 ht hil
      gi_wp2_with (refine ⟨trivial, ?_⟩; gi_at_call 81; (with_reducible refine (callsIn_wide.2 (HI.out _)).mono ?_); rintro e w7 ⟨rfl, rfl⟩)
      refine hR.mono ?_
      rintro e W3 (⟨rfl, hJ3, hk3⟩ | ⟨rfl, hJx3⟩)
      · have hs3 := hk3.heap (.inl rfl) hs1
        have hp3 := hk3.heap (.inr (.inl rfl)) hp1
        have hz3 := hk3.heap (.inr (.inr rfl)) hz1
        have hcs3 := (blk_cell hs3 0).trans rfl
        have hcp3 := (blk_cell hp3 0).trans rfl
        have hfs3 := blk_frozen hs3 0
        have hsz3 : strSz w7 Bs = t.size := by unfold strSz; rw [hcs]; rfl
        have HZ := Aside0.mk hsz3
        clear hcs hcp hcz hsz3
        gi_wp2
        go_roundw
        case rel => exact ⟨t.extract (i + 1) t.size, k + 1, by rw [HS.out]; have := HT.out; omega, HD2, hJ _ _ _ hJ3 ⟨_, rfl⟩, blk_put hs3 0 _ rfl, blk_far hp3 (fun e => hsp e.symm) _, blk_far hz3 (fun e => hsz e.symm) _⟩
        case measure =>
          have : strSz (W3.setCell ⟨Bs, 0, none⟩ (.string (t.extract (i + 1) t.size))) Bs = (t.extract (i + 1) t.size).size := by
            unfold strSz
            rw [(blk_cell (blk_put hs3 0 (.string (t.extract (i + 1) t.size)) rfl) 0).trans rfl]
            rfl
          rw [this, HZ.out, HS.out]
          have := HIL.out
          omega
      · gi_wp2
        refine bodyPost_ret (results_none rfl _ _ _) rfl ?_
        exact ⟨⟨_, rfl⟩, .inr ⟨k + 1, hkl, hJx3⟩⟩
end Go.Proofs.YtlhnaplmphdhlaaDoor.Q
end
section
set_option linter.unusedSimpArgs false
set_option linter.unusedVariables false
namespace Go.Proofs.YtlhnaplmphdhlaaDoor.Q
open Go.RowKit Go.Shelf Go.Proofs.YtlhnaplmphdhlaaDoorW.PrintWords Go.Proofs.YtlhnaplmphdhlaaDoorW.PrintLast
attribute [local go_sem] Oper.semAt_some
def bOf (p : List UInt8) : ByteArray := ⟨p.toArray⟩
theorem bOf_size (p : List UInt8) : (bOf p).size = p.length := by
  show p.toArray.size = _
  simp
def pcAt (L : List (List UInt8)) (k : Nat) : ByteArray := bOf (L.getD k [])
def okU (p : List UInt8) : Bool := decide ((parF (bOf p) 16).2 = 0) && !decide (bt (bOf p) 0 = 45) && decide (p.length ≤ 8)
def valU (p : List UInt8) : Int := (parF (bOf p) 16).1
def unitF (s : ByteArray) : List Int × Int := if (cuts 44 s.data.toList).all okU = true then (if 4 < (cuts 44 s.data.toList).length then ([], 3) else ((cuts 44 s.data.toList).map valU, 0)) else ([], 15)
theorem cuts_len (c : UInt8) : ∀ l : List UInt8, (cuts c l).length ≤ l.length + 1
  | [] => by simp [cuts]
  | a :: l => by
    have h := cuts_len c l
    rw [cuts]
    split
    · simp; omega
    · split
      · rename_i h2; rw [h2] at h; simp at h ⊢; omega
      · simp
theorem cuts_size (c : UInt8) : ∀ (l : List UInt8), ∀ p ∈ cuts c l, p.length ≤ l.length
  | [] => by simp [cuts]
  | a :: l => by
    have h := cuts_size c l
    rw [cuts]
    intro p hp
    split at hp
    · rcases List.mem_cons.1 hp with rfl | hp
      · simp
      · have := h p hp; simp; omega
    · split at hp
      · rename_i q qs h2
        rw [h2] at h
        rcases List.mem_cons.1 hp with rfl | hp
        · have := h q (by simp); simp; omega
        · have := h p (by simp [hp]); simp; omega
      · simp at hp; subst hp; simp
theorem info24i : (Tryd.prog.info? 24).map (fun i => (i.zero, i.size, i.bytes)) = some (some (.int .u32 0), 1, 4) := by kernel_rfl
theorem bt_idx (s : ByteArray) (h : 0 < s.size) : ((s[0]'h).toNat : Int) = bt s 0 := by
  unfold bt
  rw [dif_pos (by simpa using h)]
  rfl
theorem parF_pos {s : ByteArray} (h : (parF s 16).2 = 0) : 0 < s.size := by
  rcases Nat.eq_zero_or_pos s.size with h0 | h0
  · exfalso
    have e : s = ⟨#[]⟩ := by
      apply ByteArray.ext
      apply Array.ext'
      exact List.eq_nil_of_length_eq_zero (by rw [Array.length_toList]; exact h0)
    rw [e] at h
    exact absurd h (by decide)
  · exact h0
set_option maxHeartbeats 1000000 in
theorem splitSeq1_in (n : Nat) (s : ByteArray) (c : UInt8) (W : World) :
    CallsIn Fence.wide n Tryd.prog 73 #[.string s, .string ⟨#[c]⟩, .int .i64 0] W fun e w' => e = .returned (.func (.func 92) #[] #[.pointer (some ⟨W.heap.size + 1, 0, none⟩), .pointer (some ⟨W.heap.size, 0, none⟩), .pointer (some ⟨W.heap.size + 1 + 1, 0, none⟩)]) ∧ w' = ((W.alloc (.cells #[.string s] 9)).alloc (.cells #[.string ⟨#[c]⟩] 9)).alloc (.cells #[.int .i64 0] 3) := by
  refine callsIn_of_wp Tryd.func73 rfl trivial ?_ rfl
  simp only [Tryd.ntmps73, List.size_toArray, List.length_cons, List.length_nil, Nat.reduceAdd, Nat.reduceSub, Array.replicate_succ, Array.replicate_zero, List.push_toArray, List.append_toArray, List.nil_append, List.cons_append]
  gi_wp2
  go_ret
  exact ⟨by simp, rfl⟩
set_option maxHeartbeats 1000000 in
theorem splitSeq_in (s : ByteArray) (c : UInt8) (w : World) :
    CallsIn Fence.wide 4 Tryd.prog 53 #[.string s, .string ⟨#[c]⟩] w fun e w' => e = .returned (.func (.func 92) #[] #[.pointer (some ⟨w.heap.size + 1, 0, none⟩), .pointer (some ⟨w.heap.size, 0, none⟩), .pointer (some ⟨w.heap.size + 1 + 1, 0, none⟩)]) ∧ w' = ((w.alloc (.cells #[.string s] 9)).alloc (.cells #[.string ⟨#[c]⟩] 9)).alloc (.cells #[.int .i64 0] 3) := by
  refine callsIn_of_wp Tryd.func53 rfl trivial ?_ rfl
  simp only [Tryd.ntmps53, List.size_toArray, List.length_cons, List.length_nil, Nat.reduceAdd, Nat.reduceSub, Array.replicate_succ, Array.replicate_zero, List.push_toArray, List.append_toArray, List.nil_append, List.cons_append]
  gi_wp2_with (refine ⟨trivial, ?_⟩; gi_at_call 73; refine (splitSeq1_in _ _ _ _).mono ?_; rintro e w' ⟨rfl, rfl⟩)
  go_ret
  exact ⟨rfl, rfl⟩
/-- What stands between two rounds: the numbers so far, the two results, the iterator's cells. -/
def UnitI (w : World) (L : List (List UInt8)) (k : Nat) (W : World) : Prop :=
  ((∃ v, Boxed W (w.heap.size + 1 + 1) 36 v ∧ W.ownsRow w.heap.size 24 1 v k (((L.map valU).take k).map (Value.int .u32)) ∧ ∀ p ∈ L.take k, okU p = true) ∧ (Boxed W w.heap.size 36 (.slice none 0 0) ∧ Boxed W (w.heap.size + 1) 26 (.int .i64 0))) ∧
    ((∃ t, Boxed W (w.heap.size + 1 + 1 + 1) 9 t) ∧ (∃ t, Boxed W (w.heap.size + 1 + 1 + 1 + 1) 9 t) ∧ (∃ t, Boxed W (w.heap.size + 1 + 1 + 1 + 1 + 1) 3 t)) ∧ Below w.heap.size w W
def UnitX (w : World) (L : List (List UInt8)) (c : Code) (k : Nat) (W : World) : Prop := (c = .ret ∧ ¬ ∀ p ∈ L, okU p = true) ∧ Boxed W w.heap.size 36 (.slice none 0 0) ∧ Boxed W (w.heap.size + 1) 26 (.int .i64 15) ∧ Below w.heap.size w W
theorem someBoxed_own {β : Type} (B : Nat) (t : TypeId) : Own (fun (_ : β) W => ∃ v, Boxed W B t v) := fun s X Y row ⟨v, hv⟩ hg hrow => ⟨v, boxed_own (β := β) B t (fun _ => v) s X Y row hv hg hrow⟩
theorem unitI_own (w : World) (L : List (List UInt8)) (B : Nat) (hB : w.heap.size ≤ B) : OwnFrom B (UnitI w L) :=
  OwnFrom.and (OwnFrom.and (Own.from (holdsRow_own w.heap.size (w.heap.size + 1 + 1) 36 24 1 (fun k => k) (fun k => ((L.map valU).take k).map (Value.int .u32)) (fun k _ => ∀ p ∈ L.take k, okU p = true)) _) (OwnFrom.and (Own.from (boxed_own _ _ _) _) (Own.from (boxed_own _ _ _) _)))
    (OwnFrom.and (OwnFrom.and (Own.from (someBoxed_own _ _) _) (OwnFrom.and (Own.from (someBoxed_own _ _) _) (Own.from (someBoxed_own _ _) _))) (ownFrom_below (Nat.le_refl _) hB))
theorem unitX_own (w : World) (L : List (List UInt8)) (c : Code) (B : Nat) (hB : w.heap.size ≤ B) : OwnFrom B (UnitX w L c) :=
  OwnFrom.and (fun _ _ _ _ h _ _ => h) (OwnFrom.and (Own.from (boxed_own _ _ _) _) (OwnFrom.and (Own.from (boxed_own _ _ _) _) (ownFrom_below (Nat.le_refl _) hB)))
theorem unitI_abs (w : World) (L : List (List UInt8)) (k : Nat) (A B : World) (h : UnitI w L k A) (hab : AbS (w.heap.size + 1 + 1 + 1) A B) : UnitI w L k B := by
  obtain ⟨u, rfl⟩ := hab
  obtain ⟨⟨⟨v, hv, hrow, hok⟩, h1, h2⟩, ⟨⟨t3, h3⟩, ⟨t4, h4⟩, t5, h5⟩, hb⟩ := h
  refine ⟨⟨⟨v, hv.other (by omega) u, hrow.kept (grownBy_setCell' A _ u) (.inr (h3.not_row (by decide) hrow).symm), hok⟩, h1.other (by omega) u, h2.other (by omega) u⟩, ⟨⟨u, h3.set u⟩, ⟨t4, h4.other (by omega) u⟩, t5, h5.other (by omega) u⟩, below_set hb (by omega)⟩
theorem unitX_abs (w : World) (L : List (List UInt8)) (c : Code) (k : Nat) (A B : World) (h : UnitX w L c k A) (hab : AbS (w.heap.size + 1 + 1 + 1) A B) : UnitX w L c k B := by
  obtain ⟨u, rfl⟩ := hab
  exact ⟨h.1, h.2.1.other (by omega) u, h.2.2.1.other (by omega) u, below_set h.2.2.2 (by omega)⟩
theorem unit_out (w : World) (L : List (List UInt8)) (Kp : World → World → Prop) (k nn : Nat) (W : World) (a : Act) (h1 : Boxed W w.heap.size 36 (.slice none 0 0)) (h2 : Boxed W (w.heap.size + 1) 26 (.int .i64 0)) (hB : Below w.heap.size w W) (hX : ¬ ∀ p ∈ L, okU p = true) :
    RoundPost Kp (UnitI w L) (UnitX w L) k W .ret a (((W.drewN nn).setCell ⟨w.heap.size, 0, none⟩ (.slice none 0 0)).setCell ⟨w.heap.size + 1, 0, none⟩ (.int .i64 15)) := by
  have k1 : KeepsOthers W (W.drewN nn) := ⟨Nat.le_refl _, fun _ _ h _ => h⟩
  have g1 : Boxed (W.drewN nn) w.heap.size 36 (.slice none 0 0) := h1
  have g2 : Boxed (W.drewN nn) (w.heap.size + 1) 26 (.int .i64 0) := h2
  exact ⟨(k1.trans (KeepsOthers.setCell _ _ _)).trans (KeepsOthers.setCell _ _ _), ⟨rfl, hX⟩, (g1.set _).other (by omega) _, ((g2.other (by omega) _).set _), below_set (below_set (pw_below_drewN hB nn) (Nat.le_refl _)) (by omega)⟩
set_option maxRecDepth 100000 in
theorem unit_end (w X : World) (D : Nat) (hD : w.heap.size + 1 < D) (tmps : Array Value) (v : Value) (e0 : Int) (r : List Int) (ht2 : tmps.getD 2 undef = .pointer (some ⟨w.heap.size, 0, none⟩)) (ht3 : tmps.getD 3 undef = .pointer (some ⟨w.heap.size + 1, 0, none⟩))
    (hK : X.heap[D]? = some (.deferred (some []))) (g1 : Boxed X w.heap.size 36 v) (g2 : Boxed X (w.heap.size + 1) 26 (.int .i64 e0)) (hrow : X.ownsRow w.heap.size 24 1 v r.length (r.map (Value.int .u32))) (hB : Below w.heap.size w X) :
    bodyPostM Fence.wide 5 Tryd.prog Tryd.f35 (fun e W' => ∃ v, e = .returned (.tuple #[v, .int .i64 e0]) ∧ Kd.R (Kd.int .u32) 24 W' w.heap.size (fun _ => True) v r ∧ Below w.heap.size w W') Exit.ret { tmps := tmps, defers := [{ target := .collected D, args := #[] }] } X := by
  refine ⟨by simp, .inl ⟨_, _, rfl, run_takeDeferred hK, ?_⟩⟩
  have k1 : Boxed (X.putObj D (.deferred none)) w.heap.size 36 v := (World.putObj_heap_other (by omega)).trans g1
  have k2 : Boxed (X.putObj D (.deferred none)) (w.heap.size + 1) 26 (.int .i64 e0) := (World.putObj_heap_other (by omega)).trans g2
  have c1 := k1.cell
  have c2 := k2.cell
  have hrow2 := ownsRow_putObj hrow (.deferred none) hK rfl
  refine ⟨_, ?_, v, rfl, Kd.R_of_own (xs := r) hrow2 (fun _ _ => trivial), hB.trans (belowK_b (w := w) (Nat.le_refl _) X D _ _ (by omega) hK rfl rfl)⟩
  have hRR : Kd.R (Kd.int .u32) 24 (X.putObj D (.deferred none)) w.heap.size (fun _ => True) v r := Kd.R_of_own (xs := r) hrow2 (fun _ _ => trivial)
  obtain ⟨A, c, hv⟩ := Kd.R_slice hRR
  subst hv
  rw [Array.getD_eq_getD_getElem?] at ht2 ht3
  simp [results, Tryd.results35, go_sem, ht2, ht3, c1, c2]
set_option maxRecDepth 100000 in
set_option maxHeartbeats 4000000 in
theorem unit_calls (s : ByteArray) (w : World) (hs : s.size ≤ 100000000) :
    Calls Tryd.prog 35 #[.string s] w fun e W' => ∃ v, e = .returned (.tuple #[v, .int .i64 (unitF s).2]) ∧ Kd.R (Kd.int .u32) 24 W' w.heap.size (fun _ => True) v (unitF s).1 ∧ Below w.heap.size w W' := by
  refine (callsIn_wide (n := 5)).1 ?_
  obtain ⟨i0, hi, hz0, hz1, hz2⟩ := info_parts info24i
  obtain ⟨L, hL⟩ : ∃ L, L = cuts 44 s.data.toList := ⟨_, rfl⟩
  have HLl := Aside0.mk (show L.length ≤ 100000001 by
    have := cuts_len 44 s.data.toList
    rw [hL]
    have e : s.data.toList.length = s.size := Array.length_toList
    omega)
  have HLs := Aside0.mk (show ∀ p ∈ L, p.length ≤ 100000000 by
    intro p hp
    have := cuts_size 44 s.data.toList p (hL ▸ hp)
    have e : s.data.toList.length = s.size := Array.length_toList
    omega)
  have HSq := Aside0.mk (show ∀ W0 : World, W0.heap[w.heap.size + 1 + 1 + 1]? = some (.cells #[.string s] 9 (0, 0)) → W0.heap[w.heap.size + 1 + 1 + 1 + 1]? = some (.cells #[.string ⟨#[44]⟩] 9 (0, 0)) → W0.heap[w.heap.size + 1 + 1 + 1 + 1 + 1]? = some (.cells #[.int .i64 0] 3 (0, 0)) →
      SeqL 4 Tryd.prog 92 #[.pointer (some ⟨w.heap.size + 1 + 1 + 1 + 1, 0, none⟩), .pointer (some ⟨w.heap.size + 1 + 1 + 1, 0, none⟩), .pointer (some ⟨w.heap.size + 1 + 1 + 1 + 1 + 1, 0, none⟩)] (AbS (w.heap.size + 1 + 1 + 1)) (KpS (w.heap.size + 1 + 1 + 1) (w.heap.size + 1 + 1 + 1 + 1) (w.heap.size + 1 + 1 + 1 + 1 + 1)) (L.map pieceV) W0 from fun W0 h1 h2 h3 => by
    rw [hL]
    exact split_seq 44 4 (by decide) _ _ _ (by omega) (by omega) s (by omega) W0 h1 h2 h3)
  obtain ⟨R, hR⟩ : ∃ R, R = unitF s := ⟨_, rfl⟩
  rw [← hR]
  have HR := Aside0.mk (show R = if L.all okU = true then (if 4 < L.length then ([], 3) else (L.map valU, 0)) else ([], 15) by rw [hR, hL]; rfl)
  clear hR hL hs
  refine callsIn_of_wp_marks Tryd.func35 rfl trivial ?_ rfl
  simp only [Tryd.ntmps35, List.size_toArray, List.length_cons, List.length_nil, Nat.reduceAdd, Nat.reduceSub, Array.replicate_succ, Array.replicate_zero, List.push_toArray, List.append_toArray, List.nil_append, List.cons_append]
  gi_wp2_with (refine ⟨trivial, ?_⟩; gi_at_call 53; refine (splitSeq_in _ _ _).mono ?_; rintro e w' ⟨rfl, rfl⟩)
  obtain ⟨W0, hW0⟩ : ∃ W0, W0 = (((((w.alloc (.cells #[.slice none 0 0] 36)).alloc (.cells #[.int .i64 0] 26)).alloc (.cells #[.slice none 0 0] 36)).alloc (.cells #[.string s] 9)).alloc (.cells #[.string ⟨#[44]⟩] 9)).alloc (.cells #[.int .i64 0] 3) := ⟨_, rfl⟩
  have b0 : Boxed W0 w.heap.size 36 (.slice none 0 0) := by rw [hW0]; exact (((((Boxed.new w 36 (.slice none 0 0)).alloc _).alloc _).alloc _).alloc _).alloc _
  have b1 : Boxed W0 (w.heap.size + 1) 26 (.int .i64 0) := by
    rw [hW0]
    have h := Boxed.new (w.alloc (.cells #[.slice none 0 0] 36)) 26 (.int .i64 0)
    rw [World.size_alloc] at h
    exact (((h.alloc _).alloc _).alloc _).alloc _
  have b2 : Boxed W0 (w.heap.size + 1 + 1) 36 (.slice none 0 0) := by
    rw [hW0]
    have h := Boxed.new ((w.alloc (.cells #[.slice none 0 0] 36)).alloc (.cells #[.int .i64 0] 26)) 36 (.slice none 0 0)
    rw [World.size_alloc, World.size_alloc] at h
    exact ((h.alloc _).alloc _).alloc _
  have b3 : Boxed W0 (w.heap.size + 1 + 1 + 1) 9 (.string s) := by
    rw [hW0]
    have h := Boxed.new (((w.alloc (.cells #[.slice none 0 0] 36)).alloc (.cells #[.int .i64 0] 26)).alloc (.cells #[.slice none 0 0] 36)) 9 (.string s)
    rw [World.size_alloc, World.size_alloc, World.size_alloc] at h
    exact (h.alloc _).alloc _
  have b4 : Boxed W0 (w.heap.size + 1 + 1 + 1 + 1) 9 (.string ⟨#[44]⟩) := by
    rw [hW0]
    have h := Boxed.new ((((w.alloc (.cells #[.slice none 0 0] 36)).alloc (.cells #[.int .i64 0] 26)).alloc (.cells #[.slice none 0 0] 36)).alloc (.cells #[.string s] 9)) 9 (.string ⟨#[44]⟩)
    rw [World.size_alloc, World.size_alloc, World.size_alloc, World.size_alloc] at h
    exact h.alloc _
  have b5 : Boxed W0 (w.heap.size + 1 + 1 + 1 + 1 + 1) 3 (.int .i64 0) := by
    rw [hW0]
    have h := Boxed.new (((((w.alloc (.cells #[.slice none 0 0] 36)).alloc (.cells #[.int .i64 0] 26)).alloc (.cells #[.slice none 0 0] 36)).alloc (.cells #[.string s] 9)).alloc (.cells #[.string ⟨#[44]⟩] 9)) 3 (.int .i64 0)
    rw [World.size_alloc, World.size_alloc, World.size_alloc, World.size_alloc, World.size_alloc] at h
    exact h
  have hB0 : Below w.heap.size w W0 := by rw [hW0]; exact below_alloc (below_alloc (below_alloc (below_alloc (below_alloc (below_alloc (Below.refl _ _) _) _) _) _) _) _
  have hs0 : W0.heap.size = w.heap.size + 6 := by rw [hW0]; simp
  rw [← hW0]
  clear hW0
  refine wp_rangeL (by omega) (gf := 92) (lb := #[.pointer (some ⟨w.heap.size + 1 + 1 + 1 + 1, 0, none⟩), .pointer (some ⟨w.heap.size + 1 + 1 + 1, 0, none⟩), .pointer (some ⟨w.heap.size + 1 + 1 + 1 + 1 + 1, 0, none⟩)]) rfl (enters_of Tryd.func92 (by kernel_rfl) rfl)
    (HSq.out W0 b3 b4 b5) ?hAb (fun h k => h.trans k) (fun W i o o' hi ho _ _ => ⟨by simp, fun j hj hlt => World.putObj_heap_other (by rcases hj with rfl | rfl | rfl <;> omega)⟩) ?hps
    (UnitI w L) (UnitX w L) (unitI_own w L _ (by omega)) (fun c => unitX_own w L c _ (by omega)) (unitI_abs w L) (unitX_abs w L)
    ⟨⟨⟨_, b2, World.ownsRow_nil _ _ _ _, by simp⟩, b0, b1⟩, ⟨⟨_, b3⟩, ⟨_, b4⟩, _, b5⟩, hB0⟩
    (fun k => { tmps := #[.string s, undef, .pointer (some ⟨w.heap.size, 0, none⟩), .pointer (some ⟨w.heap.size + 1, 0, none⟩), .pointer (some ⟨w.heap.size + 1 + 1, 0, none⟩), .string (pcAt L k), undef, undef, .string s, .func (.func 92) #[] #[.pointer (some ⟨w.heap.size + 1 + 1 + 1 + 1, 0, none⟩), .pointer (some ⟨w.heap.size + 1 + 1 + 1, 0, none⟩), .pointer (some ⟨w.heap.size + 1 + 1 + 1 + 1 + 1, 0, none⟩)], .string (pcAt L k), undef, undef, undef, undef, undef, undef, undef, undef, undef, undef, undef, undef, undef, undef, undef, undef, undef, undef, undef, undef, undef, undef, undef, undef, undef], defers := [] }) ?assign ?body ?done ?stop
  case hAb =>
    rintro A B i o ⟨u, rfl⟩ ho hoc
    obtain ⟨b, hb⟩ : ∃ b : World, b = A.setCell ⟨w.heap.size + 1 + 1 + 1, 0, none⟩ u := ⟨_, rfl⟩
    rw [← hb]
    have := (KeepsOthers.setCell A ⟨w.heap.size + 1 + 1 + 1, 0, none⟩ u).same i o ho hoc
    rw [← hb] at this
    exact this
  case hps =>
    intro x hx
    obtain ⟨p, _, rfl⟩ := List.mem_map.1 hx
    rfl
  case assign =>
    intro l' k hk W K hK
    have hk' : k < L.length := by simpa using hk
    have e : (L.map pieceV)[k] = #[.string (pcAt L k)] := by
      rw [List.getElem_map, pcAt, List.getD_eq_getElem?_getD, List.getElem?_eq_getElem hk']
      rfl
    rw [e]
    gi_wp2
    exact hK
  case body =>
    rintro l' k W hk0 ⟨⟨⟨v, hv, hrow, hok⟩, h1, h2⟩, ⟨⟨t3, h3⟩, ⟨t4, h4⟩, t5, h5⟩, hB⟩
    have hk : k < L.length := by simpa using hk0
    obtain ⟨q, hq⟩ : ∃ q, q = pcAt L k := ⟨_, rfl⟩
    rw [← hq]
    have hqs : q.size ≤ 100000000 := by
      rw [hq, pcAt, bOf_size, List.getD_eq_getElem?_getD, List.getElem?_eq_getElem hk]
      exact HLs.out _ (List.getElem_mem hk)
    have hqL : L[k] = L.getD k [] := by rw [List.getD_eq_getElem?_getD, List.getElem?_eq_getElem hk]; rfl
    have hqe : bOf L[k] = q := by rw [hq, pcAt, hqL]
    obtain ⟨x, hx⟩ : ∃ x, x = (parF q 16).1 := ⟨_, rfl⟩
    obtain ⟨e0, he0⟩ : ∃ e0, e0 = (parF q 16).2 := ⟨_, rfl⟩
    have HP := Aside0.mk (show ∀ X : World, Calls Tryd.prog 54 #[.string q, .int .u32 16] X (fun e w' => e = .returned (.tuple #[.int .u32 x, .int .i64 e0]) ∧ Drawn0 X w') from fun X =>
      digit_Parse.calls 100000050 q 16 x e0 X (by rw [parse_eq _ _ _ (by omega) (by omega), hx, he0]))
    have hne : ¬ okU L[k] = true → ¬ ∀ p ∈ L, okU p = true := fun h h2 => h (h2 _ (List.getElem_mem hk))
    have hokk : okU L[k] = (decide (e0 = 0) && !decide (bt q 0 = 45) && decide (q.size ≤ 8)) := by
      unfold okU
      rw [hqe, ← he0, ← hqe, bOf_size]
    by_cases hz : e0 = 0
    · have hpos : 0 < q.size := parF_pos (by rw [← he0, hz])
      have p1 : (0 < (q.size : Int)) = True := eq_true (by omega)
      have hbt := bt_idx q hpos
      subst hz
      by_cases h45 : bt q 0 = 45
      · have hX := hne (by rw [hokk, h45]; simp)
        have d2 : (((q[0]'hpos).toNat : Int) == 45) = true := by rw [hbt, h45]; rfl
        have HX := Aside0.mk hX
        clear hx he0 hokk hne hqe hqL hqs hq hk hs0 hok hX hbt
        have hc1 := h1.cell
        have hf1 := h1.frozen
        have hc2 := h2.cell
        have hf2 := h2.frozen
        gi_wp2_with (refine ⟨trivial, ?_⟩; gi_at_call 54; refine (CallsIn.inRound l' (callsIn_wide.2 (HP.out _))).mono ?_; rintro e w' ⟨rfl, hd⟩; obtain ⟨⟨nn, rfl⟩⟩ := hd)
        exact unit_out w L _ _ nn W _ h1 h2 hB HX.out
      · have d2 : (((q[0]'hpos).toNat : Int) == 45) = false := by rw [hbt]; exact beq_false_of_ne h45
        by_cases h8 : q.size ≤ 8
        · have d3 : decide ((8 : Int) < (q.size : Int)) = false := decide_eq_false (by omega)
          have hokt : okU L[k] = true := by rw [hokk]; simp [h45, h8]
          have HTk := Aside0.mk (show (L.map valU).take (k + 1) = (L.map valU).take k ++ [x] by
            rw [List.take_succ_eq_append_getElem (by rw [List.length_map]; exact hk), List.getElem_map]
            congr 2
            unfold valU
            rw [hqe, hx])
          have HOk := Aside0.mk (show ∀ p ∈ L.take (k + 1), okU p = true by
            intro p hp
            rw [List.take_succ_eq_append_getElem hk] at hp
            rcases List.mem_append.1 hp with hp | hp
            · exact hok p hp
            · rw [List.mem_singleton.1 hp]; exact hokt)
          have HK := Aside0.mk (show k ≤ 100000001 from Nat.le_trans (Nat.le_of_lt hk) HLl.out)
          have HTl := Aside0.mk (show (((L.map valU).take k).map (Value.int .u32)).length = k by rw [List.length_map, List.length_take, List.length_map]; omega)
          clear hx he0 hokk hne hqe hqL hqs hq hk hs0 hok hbt h45 h8 hokt
          gi_wp2_with (first
            | (refine ⟨trivial, ?_⟩; gi_at_call 54; refine (CallsIn.inRound l' (callsIn_wide.2 (HP.out _))).mono ?_; rintro e w' ⟨rfl, hd⟩; obtain ⟨⟨nn, rfl⟩⟩ := hd; have hvX : Boxed (W.drewN nn) (w.heap.size + 1 + 1) 36 v := hv; have hrowX : (W.drewN nn).ownsRow w.heap.size 24 1 v k (((L.map valU).take k).map (Value.int .u32)) := hrow; have hBX : Below w.heap.size w (W.drewN nn) := pw_below_drewN hB nn; obtain ⟨X, hX⟩ : ∃ X, X = W.drewN nn := ⟨_, rfl⟩; have HXW := Aside0.mk hX; rw [← hX] at hvX hrowX hBX ⊢; clear hX; have hcX := hvX.cell; clear hv hrow hB)
            | (gi_at_builtin; refine wpListIn_append_own _ rfl _ _ 36 rfl w.heap.size 24 i0 (.int .u32 0) 1 4 Tryd.underlying36 hi hz0 hz1 hz2 rfl (by decide) _ _ _ rfl (hrowX.alloc _) ⟨X.heap.size, 0, none⟩ 1 1 [.int .u32 x] rfl rfl (cell_one_new _ _ _) (by simp [Value.oneCell']) (by have := HK.out; unfold maxLen; omega) (by have := HK.out; omega) (by have := hBX.size; simp; omega) ?_; intro v' w1 hown' hgrow _; obtain ⟨g', cap', rfl⟩ := ownsRow_succ hown'; obtain ⟨hv1, hv2, hr2, hk2, hb2⟩ := hvX.appended (by decide) hrowX hBX.size (by omega) hown' hgrow; have hc1 := hv1.cell; have hf1 := hv1.frozen))
          have hXW := HXW.out
          subst hXW
          have k1 : KeepsOthers W (W.drewN nn) := ⟨Nat.le_refl _, fun _ _ h _ => h⟩
          have hkk := k1.trans hk2
          have hBk := hBX.trans hb2
          have box : ∀ {B : Nat} {t : TypeId} {u : Value}, Boxed W B t u → 24 ≠ t → w.heap.size + 1 + 1 ≠ B → Boxed (w1.setCell ⟨w.heap.size + 1 + 1, 0, none⟩ (.slice (some ⟨g', 0, none⟩) (k + 1) cap')) B t u := fun {B t u} h ht hB2 => by
            have h' : Boxed (W.drewN nn) B t u := h
            exact ((h'.alloc _).kept hgrow (h'.not_row (fun e => ht e.symm) hrowX)).other (fun e => hB2 e.symm) _
          have f3 := box h3 (by decide) (by omega)
          have f4 := box h4 (by decide) (by omega)
          have f5 := box h5 (by decide) (by omega)
          refine ⟨hkk, ⟨hkk.size, fun i hi hl => ?_⟩, ⟨⟨_, hv2, ?_, HOk.out⟩, box h1 (by decide) (by omega), box h2 (by decide) (by omega)⟩, ⟨⟨t3, f3⟩, ⟨t4, f4⟩, t5, f5⟩, hBk⟩
          · rcases hi with rfl | rfl | rfl
            · exact (show _ = _ from f3).trans (show _ = _ from h3).symm
            · exact (show _ = _ from f4).trans (show _ = _ from h4).symm
            · exact (show _ = _ from f5).trans (show _ = _ from h5).symm
          · rw [HTk.out, List.map_append]
            exact hr2
        · have hX := hne (by rw [hokk]; simp [h8])
          have d3 : decide ((8 : Int) < (q.size : Int)) = true := decide_eq_true (by omega)
          have HX := Aside0.mk hX
          clear hx he0 hokk hne hqe hqL hqs hq hk hs0 hok hX hbt h45 h8
          have hc1 := h1.cell
          have hf1 := h1.frozen
          have hc2 := h2.cell
          have hf2 := h2.frozen
          gi_wp2_with (refine ⟨trivial, ?_⟩; gi_at_call 54; refine (CallsIn.inRound l' (callsIn_wide.2 (HP.out _))).mono ?_; rintro e w' ⟨rfl, hd⟩; obtain ⟨⟨nn, rfl⟩⟩ := hd)
          exact unit_out w L _ _ nn W _ h1 h2 hB HX.out
    · have hX := hne (by rw [hokk]; simp [hz])
      have d1 : (e0 != 0) = true := by simp [hz]
      have HX := Aside0.mk hX
      clear hx he0 hokk hne hqe hqL hqs hq hk hs0 hok hX hz
      have hc1 := h1.cell
      have hf1 := h1.frozen
      have hc2 := h2.cell
      have hf2 := h2.frozen
      gi_wp2_with (refine ⟨trivial, ?_⟩; gi_at_call 54; refine (CallsIn.inRound l' (callsIn_wide.2 (HP.out _))).mono ?_; rintro e w' ⟨rfl, hd⟩; obtain ⟨⟨nn, rfl⟩⟩ := hd)
      exact unit_out w L _ _ nn W _ h1 h2 hB HX.out
  case done =>
    rintro D W hD ⟨⟨⟨v, hv, hrow, hok⟩, h1, h2⟩, _, hB⟩ hK
    have hLn : (L.map pieceV).length = L.length := List.length_map _
    rw [hLn] at hrow hok
    rw [List.take_of_length_le (by rw [List.length_map]; exact Nat.le_refl _)] at hrow
    rw [List.take_of_length_le (Nat.le_refl _)] at hok
    have hRx : Kd.R (Kd.int .u32) 24 W w.heap.size (fun _ => True) v (L.map valU) := Kd.R_of_own (xs := L.map valU) (by rw [List.length_map]; exact hrow) (fun _ _ => trivial)
    obtain ⟨A, c, rfl⟩ := Kd.R_slice hRx
    have hc := hv.cell
    have hc1 := h1.cell
    have hf1 := h1.frozen
    have hc2 := h2.cell
    have hf2 := h2.frozen
    have hall : L.all okU = true := List.all_eq_true.2 hok
    have hLm : (L.map valU).length = L.length := List.length_map _
    rw [hLm] at hv hc hRx
    have hR := HR.out
    rw [if_pos hall] at hR
    clear hok hall
    by_cases h4 : 4 < L.length
    · rw [if_pos h4] at hR
      subst hR
      have d4 : decide ((4 : Int) < (L.length : Int)) = true := decide_eq_true (by omega)
      gi_wp2
      exact unit_end w _ D (by omega) _ (.slice none 0 0) 3 [] rfl rfl (((KeepsOthers.setCell _ _ _).trans (KeepsOthers.setCell _ _ _)).same D _ hK rfl) ((h1.set _).other (by omega) _) ((h2.other (by omega) _).set _) (World.ownsRow_nil _ _ _ _) (below_set (below_set hB (Nat.le_refl _)) (by omega))
    · rw [if_neg h4] at hR
      subst hR
      have d4 : decide ((4 : Int) < (L.length : Int)) = false := decide_eq_false (by omega)
      have hne1 := h1.not_row (by decide) hrow
      have hne2 := h2.not_row (by decide) hrow
      rw [hLm] at hne1 hne2
      gi_wp2
      have e : (L.map valU).length = L.length := hLm
      refine unit_end w _ D (by omega) _ (.slice A L.length c) 0 (L.map valU) rfl rfl (((KeepsOthers.setCell _ _ _).trans (KeepsOthers.setCell _ _ _)).same D _ hK rfl) ((h1.set _).other (by omega) _) ((h2.other (by omega) _).set _) ?_ (below_set (below_set hB (Nat.le_refl _)) (by omega))
      rw [hLm] at hrow ⊢
      exact (hrow.kept (grownBy_setCell' _ _ _) (.inr hne1.symm)).kept (grownBy_setCell' _ _ _) (.inr hne2.symm)
  case stop =>
    rintro D c k W hD hkk ⟨⟨rfl, hX⟩, h1, h2, hB⟩ hK
    have hR := HR.out
    rw [if_neg (fun h => hX (List.all_eq_true.1 h))] at hR
    subst hR
    have hc1 := h1.cell
    have hc2 := h2.cell
    gi_wp2
    exact unit_end w _ D (by omega) _ (.slice none 0 0) 15 [] rfl rfl hK h1 h2 (World.ownsRow_nil _ _ _ _) hB
def prop_ParseUnit.f (s : ByteArray) : Option (List Int × Int) := if s.size ≤ 100000000 then some (unitF s) else none
theorem prop_ParseUnit.calls (a0 : ByteArray) (r1 : List Int) (r2 : Int) (w : World) (h : prop_ParseUnit.f a0 = some (r1, r2)) :
    Calls Tryd.prog 35 #[.string a0] w fun e w' => ∃ v0_ : Value, e = .returned (.tuple #[v0_, .int .i64 r2]) ∧ Kd.R (Kd.int .u32) 24 w' w.heap.size (fun _ => True) v0_ r1 ∧ Below w.heap.size w w' := by
  unfold prop_ParseUnit.f at h
  split at h
  · rename_i hs
    have e := Option.some.inj h
    have h2 := unit_calls a0 w hs
    rw [e] at h2
    exact h2
  · cases h
end Go.Proofs.YtlhnaplmphdhlaaDoor.Q
end
section
namespace Go.Proofs.YtlhnaplmphdhlaaDoor.Q
open Go.RowKit Go.Proofs.YtlhnaplmphdhlaaDoorW.PrintWords Go.Proofs.YtlhnaplmphdhlaaDoorW.PrintLast Go.Proofs.YtlhnaplmphdhlaaDoorW.PrintMore
set_option linter.unusedVariables false
set_option linter.unusedSimpArgs false

attribute [local go_sem] max2_int min2_int max_two min_two max_three min_three max_four min_four
/-! ### path_step: function 60 -/
def path_step.f (k : Nat) (a0 : ByteArray) : Option (ByteArray × List Int × ByteArray × Bool) := (strings_Cut.f a0 (⟨#[58]⟩ : ByteArray)).bind fun bt61002 => ((strings_Cut.f bt61002.1 (⟨#[64]⟩ : ByteArray)).bind fun bt61005 => ((prop_Named.f k bt61005.1).bind fun t61008 => (if t61008 = true then (if bt61005.2.2 = true then ((prop_ParseUnit.f bt61005.2.1).bind fun bt61009 => (if bt61009.2 = 0 then (some (bt61005.1, bt61009.1, bt61002.2.1, true)) else (some ((⟨#[]⟩ : ByteArray), ([] : List Int), (⟨#[]⟩ : ByteArray), false)))) else (some (bt61005.1, ([] : List Int), bt61002.2.1, true))) else (some ((⟨#[]⟩ : ByteArray), ([] : List Int), (⟨#[]⟩ : ByteArray), false)))))
set_option maxHeartbeats 8000000 in
set_option maxRecDepth 100000 in
theorem path_step.calls (k : Nat) (a0 : ByteArray) (r1 : ByteArray) (r2 : List Int) (r3 : ByteArray) (r4 : Bool) (w : World) (h : path_step.f k a0 = some (r1, r2, r3, r4)) :
    Calls Tryd.prog 60 #[.string a0] w fun e w' => ∃ v1_ : Value, e = .returned (.tuple #[.agg #[.string r1, v1_, .string r3], .bool r4]) ∧ Kd.R (Kd.int .u32) 24 w' w.heap.size (fun _ => True) v1_ r2 ∧ Below w.heap.size w w' := by
  have hu81 := Tryd.underlying81
  have HB := Aside0.mk (Below.refl w.heap.size w)
  have H : ((strings_Cut.f a0 (⟨#[58]⟩ : ByteArray)).bind fun bt61002 => ((strings_Cut.f bt61002.1 (⟨#[64]⟩ : ByteArray)).bind fun bt61005 => ((prop_Named.f k bt61005.1).bind fun t61008 => (if t61008 = true then (if bt61005.2.2 = true then ((prop_ParseUnit.f bt61005.2.1).bind fun bt61009 => (if bt61009.2 = 0 then (some (bt61005.1, bt61009.1, bt61002.2.1, true)) else (some ((⟨#[]⟩ : ByteArray), ([] : List Int), (⟨#[]⟩ : ByteArray), false)))) else (some (bt61005.1, ([] : List Int), bt61002.2.1, true))) else (some ((⟨#[]⟩ : ByteArray), ([] : List Int), (⟨#[]⟩ : ByteArray), false)))))) = some (r1, r2, r3, r4) := h
  clear h
  replace H := Option.bind_eq_some_iff.mp H
  obtain ⟨⟨t61002, t61003, t61004⟩, A20, H⟩ := H
  replace H : ((strings_Cut.f t61002 (⟨#[64]⟩ : ByteArray)).bind fun bt61005 => ((prop_Named.f k bt61005.1).bind fun t61008 => (if t61008 = true then (if bt61005.2.2 = true then ((prop_ParseUnit.f bt61005.2.1).bind fun bt61009 => (if bt61009.2 = 0 then (some (bt61005.1, bt61009.1, t61003, true)) else (some ((⟨#[]⟩ : ByteArray), ([] : List Int), (⟨#[]⟩ : ByteArray), false)))) else (some (bt61005.1, ([] : List Int), t61003, true))) else (some ((⟨#[]⟩ : ByteArray), ([] : List Int), (⟨#[]⟩ : ByteArray), false))))) = some (r1, r2, r3, r4) := H
  have A2 := Aside0.mk A20
  clear A20
  replace H := Option.bind_eq_some_iff.mp H
  obtain ⟨⟨t61005, t61006, t61007⟩, A30, H⟩ := H
  replace H : ((prop_Named.f k t61005).bind fun t61008 => (if t61008 = true then (if t61007 = true then ((prop_ParseUnit.f t61006).bind fun bt61009 => (if bt61009.2 = 0 then (some (t61005, bt61009.1, t61003, true)) else (some ((⟨#[]⟩ : ByteArray), ([] : List Int), (⟨#[]⟩ : ByteArray), false)))) else (some (t61005, ([] : List Int), t61003, true))) else (some ((⟨#[]⟩ : ByteArray), ([] : List Int), (⟨#[]⟩ : ByteArray), false)))) = some (r1, r2, r3, r4) := H
  have A3 := Aside0.mk A30
  clear A30
  replace H := Option.bind_eq_some_iff.mp H
  obtain ⟨t61008, A40, H⟩ := H
  replace H : (if t61008 = true then (if t61007 = true then ((prop_ParseUnit.f t61006).bind fun bt61009 => (if bt61009.2 = 0 then (some (t61005, bt61009.1, t61003, true)) else (some ((⟨#[]⟩ : ByteArray), ([] : List Int), (⟨#[]⟩ : ByteArray), false)))) else (some (t61005, ([] : List Int), t61003, true))) else (some ((⟨#[]⟩ : ByteArray), ([] : List Int), (⟨#[]⟩ : ByteArray), false))) = some (r1, r2, r3, r4) := H
  have A4 := Aside0.mk A40
  clear A40
  by_cases c5 : t61008 = true
  · subst c5
    have H1 : (if t61007 = true then ((prop_ParseUnit.f t61006).bind fun bt61009 => (if bt61009.2 = 0 then (some (t61005, bt61009.1, t61003, true)) else (some ((⟨#[]⟩ : ByteArray), ([] : List Int), (⟨#[]⟩ : ByteArray), false)))) else (some (t61005, ([] : List Int), t61003, true))) = some (r1, r2, r3, r4) := by rw [if_pos rfl] at H; exact H
    clear H
    have H := H1
    clear H1
    by_cases c6 : t61007 = true
    · subst c6
      have H1 : ((prop_ParseUnit.f t61006).bind fun bt61009 => (if bt61009.2 = 0 then (some (t61005, bt61009.1, t61003, true)) else (some ((⟨#[]⟩ : ByteArray), ([] : List Int), (⟨#[]⟩ : ByteArray), false)))) = some (r1, r2, r3, r4) := by rw [if_pos rfl] at H; exact H
      clear H
      have H := H1
      clear H1
      replace H := Option.bind_eq_some_iff.mp H
      obtain ⟨⟨t61009, t61010⟩, A70, H⟩ := H
      replace H : (if t61010 = 0 then (some (t61005, t61009, t61003, true)) else (some ((⟨#[]⟩ : ByteArray), ([] : List Int), (⟨#[]⟩ : ByteArray), false))) = some (r1, r2, r3, r4) := H
      have A7 := Aside0.mk A70
      clear A70
      by_cases c8 : t61010 = 0
      · rw [if_pos c8] at H
        have c8b0 : (t61010 == 0) = true := beq_iff_eq.mpr c8
        have c8b1 : (t61010 != 0) = false := bne_eq_false_iff_eq.mpr c8
        clear c8
        simp only [Option.some.injEq, Prod.mk.injEq] at H
        obtain ⟨rfl, rfl, rfl, rfl⟩ := H
        go_enter Tryd.func60, Tryd.ntmps60
        go_wp2_with (first | ((with_reducible refine gate_dst (N := 2) rfl ?_); refine box_event ?hg (N := 2) ?hd (cs := #[.string (⟨#[]⟩ : ByteArray), .slice none 0 0, .string (⟨#[]⟩ : ByteArray)]) (t := 81) ?hr ?_; (case hd => rfl); (case hg => rfl); (case hr => first | (go_simp; done) | (go_simp; rfl)); intro gb61001 hg w9 hbox hb; have n0_ := Aside0.mk (below_step (by repeat (first | (with_reducible first | exact HB.out | apply below_alloc | apply pw_below_drewN | apply below_drew1) | exact HB.out)) hb); have n1_ := Aside0.mk (hbox); have n2_ := Aside0.mk ((by rw [hg]; exact (below_size (by repeat (first | (with_reducible first | exact HB.out | apply below_alloc | apply pw_below_drewN | apply below_drew1) | exact HB.out))) : w.heap.size ≤ gb61001)); have n3_ := Aside0.mk ((by rw [hg]; exact (below_size (by repeat (first | (with_reducible first | exact HB.out | apply below_alloc | apply pw_below_drewN | apply below_drew1) | exact HB.out))) : w.heap.size ≤ gb61001)); clear HB; have HB := n0_; have BK61001 := n1_; have GW61001 := n2_; have GE61001 := n3_; clear n0_ n1_ n2_ n3_; clear hb hbox hg) | ((with_reducible refine gate_callee (f := 80) rfl ?_); refine goesL_ (some 10) rfl rfl Tryd.func80 (by kernel_rfl) rfl #[.string a0, .string (⟨#[58]⟩ : ByteArray)] rfl (by (try simp only [List.map_toArray, List.map_cons, List.map_nil]); first | done | rfl | (simp only [List.length_drop, List.length_take]; rfl)) ?_; (with_reducible refine (strings_Cut.calls a0 (⟨#[58]⟩ : ByteArray) t61002 t61003 t61004 _ A2.out).mono ?_); rintro e w10 ⟨rfl, hb⟩; refine ⟨_, rfl, ?_⟩; have n0_ := Aside0.mk (blk_below (g := gb61001) (o := .cells #[.string (⟨#[]⟩ : ByteArray), .slice none 0 0, .string (⟨#[]⟩ : ByteArray)] 81 (0, 0)) (by (with_reducible repeat (first | refine blk_drewN ?_ _ | refine blk_drew ?_ | refine blk_alloc ?_ _)); exact BK61001.out) hb); have n1_ := Aside0.mk (below_step (by repeat (first | (with_reducible first | exact HB.out | apply below_alloc | apply pw_below_drewN | apply below_drew1 | refine below_set ?_ GE61001.out) | exact HB.out)) hb); clear BK61001; clear HB; have BK61001 := n0_; have HB := n1_; clear n0_ n1_; (try clear hb); (try clear hb2); (try clear hk); (try clear hi); have hcz11_0 : w10.cell? ⟨gb61001, 0, none⟩ = some (.string (⟨#[]⟩ : ByteArray)) := (blk_cell BK61001.out 0).trans rfl; have hcz11_1 : w10.cell? ⟨gb61001, 1, none⟩ = some (.slice none 0 0) := (blk_cell BK61001.out 1).trans rfl; have hcz11_2 : w10.cell? ⟨gb61001, 2, none⟩ = some (.string (⟨#[]⟩ : ByteArray)) := (blk_cell BK61001.out 2).trans rfl; have hfz11_0 := blk_frozen BK61001.out 0; have hfz11_1 := blk_frozen BK61001.out 1; have hfz11_2 := blk_frozen BK61001.out 2) | ((with_reducible refine gate_callee (f := 80) rfl ?_); refine goesL_ (some 17) rfl rfl Tryd.func80 (by kernel_rfl) rfl #[.string t61002, .string (⟨#[64]⟩ : ByteArray)] rfl (by (try simp only [List.map_toArray, List.map_cons, List.map_nil]); first | done | rfl | (simp only [List.length_drop, List.length_take]; rfl)) ?_; (with_reducible refine (strings_Cut.calls t61002 (⟨#[64]⟩ : ByteArray) t61005 t61006 true _ A3.out).mono ?_); rintro e w12 ⟨rfl, hb⟩; refine ⟨_, rfl, ?_⟩; have n0_ := Aside0.mk (blk_below (g := gb61001) (o := .cells #[.string (⟨#[]⟩ : ByteArray), .slice none 0 0, .string t61003] 81 (0, 0)) (by (with_reducible repeat (first | refine blk_drewN ?_ _ | refine blk_drew ?_ | refine blk_alloc ?_ _)); refine blk_put (cs := #[.string (⟨#[]⟩ : ByteArray), .slice none 0 0, .string (⟨#[]⟩ : ByteArray)]) ?_ 2 _ rfl; (with_reducible repeat (first | refine blk_drewN ?_ _ | refine blk_drew ?_ | refine blk_alloc ?_ _)); exact BK61001.out) hb); have n1_ := Aside0.mk (below_step (by repeat (first | (with_reducible first | exact HB.out | apply below_alloc | apply pw_below_drewN | apply below_drew1 | refine below_set ?_ GE61001.out) | exact HB.out)) hb); clear BK61001; clear HB; have BK61001 := n0_; have HB := n1_; clear n0_ n1_; (try clear hb); (try clear hb2); (try clear hk); (try clear hi); have hcz13_0 : w12.cell? ⟨gb61001, 0, none⟩ = some (.string (⟨#[]⟩ : ByteArray)) := (blk_cell BK61001.out 0).trans rfl; have hcz13_1 : w12.cell? ⟨gb61001, 1, none⟩ = some (.slice none 0 0) := (blk_cell BK61001.out 1).trans rfl; have hcz13_2 : w12.cell? ⟨gb61001, 2, none⟩ = some (.string t61003) := (blk_cell BK61001.out 2).trans rfl; have hfz13_0 := blk_frozen BK61001.out 0; have hfz13_1 := blk_frozen BK61001.out 1; have hfz13_2 := blk_frozen BK61001.out 2) | ((with_reducible refine gate_callee (f := 15) rfl ?_); refine goesL_ (some 24) rfl rfl Tryd.func15 (by kernel_rfl) rfl #[.string t61005] rfl (by (try simp only [List.map_toArray, List.map_cons, List.map_nil]); first | done | rfl | (simp only [List.length_drop, List.length_take]; rfl)) ?_; (with_reducible refine (prop_Named.calls k t61005 true _ A4.out).mono ?_); rintro e w14 ⟨rfl, hb⟩; refine ⟨_, rfl, ?_⟩; have n0_ := Aside0.mk (blk_below (g := gb61001) (o := .cells #[.string t61005, .slice none 0 0, .string t61003] 81 (0, 0)) (by (with_reducible repeat (first | refine blk_drewN ?_ _ | refine blk_drew ?_ | refine blk_alloc ?_ _)); refine blk_put (cs := #[.string (⟨#[]⟩ : ByteArray), .slice none 0 0, .string t61003]) ?_ 0 _ rfl; (with_reducible repeat (first | refine blk_drewN ?_ _ | refine blk_drew ?_ | refine blk_alloc ?_ _)); exact BK61001.out) hb); have n1_ := Aside0.mk (below_step (by repeat (first | (with_reducible first | exact HB.out | apply below_alloc | apply pw_below_drewN | apply below_drew1 | refine below_set ?_ GE61001.out) | exact HB.out)) hb); clear BK61001; clear HB; have BK61001 := n0_; have HB := n1_; clear n0_ n1_; (try clear hb); (try clear hb2); (try clear hk); (try clear hi)) | ((with_reducible refine gate_callee (f := 35) rfl ?_); refine goesL_ (some 30) rfl rfl Tryd.func35 (by kernel_rfl) rfl #[.string t61006] rfl (by (try simp only [List.map_toArray, List.map_cons, List.map_nil]); first | done | rfl | (simp only [List.length_drop, List.length_take]; rfl)) ?_; (with_reducible refine (prop_ParseUnit.calls t61006 t61009 t61010 _ A7.out).mono ?_); rintro e w15 ⟨v61011, rfl, ho0, hb⟩; refine ⟨_, rfl, ?_⟩; have n0_ := Aside0.mk (Kd.R_lower ho0 (below_size (by repeat (first | (with_reducible first | exact HB.out | apply below_alloc | apply pw_below_drewN | apply below_drew1 | refine below_set ?_ GE61001.out) | exact HB.out)))); have n1_ := Aside0.mk (blk_below (g := gb61001) (o := .cells #[.string t61005, .slice none 0 0, .string t61003] 81 (0, 0)) (by (with_reducible repeat (first | refine blk_drewN ?_ _ | refine blk_drew ?_ | refine blk_alloc ?_ _)); exact BK61001.out) hb); have n2_ := Aside0.mk (below_step (by repeat (first | (with_reducible first | exact HB.out | apply below_alloc | apply pw_below_drewN | apply below_drew1 | refine below_set ?_ GE61001.out) | exact HB.out)) hb); clear BK61001; clear HB; have HO61012 := n0_; have BK61001 := n1_; have HB := n2_; clear n0_ n1_ n2_; (try clear hb); (try clear hb2); (try clear hk); (try clear hi); (try clear ho0); obtain ⟨Ao16, co16, eo16⟩ := Kd.R_slice HO61012.out; subst eo16; have hcz17_0 : w15.cell? ⟨gb61001, 0, none⟩ = some (.string t61005) := (blk_cell BK61001.out 0).trans rfl; have hcz17_1 : w15.cell? ⟨gb61001, 1, none⟩ = some (.slice none 0 0) := (blk_cell BK61001.out 1).trans rfl; have hcz17_2 : w15.cell? ⟨gb61001, 2, none⟩ = some (.string t61003) := (blk_cell BK61001.out 2).trans rfl; have hfz17_0 := blk_frozen BK61001.out 0; have hfz17_1 := blk_frozen BK61001.out 1; have hfz17_2 := blk_frozen BK61001.out 2))
        refine bodyPost_ret (results_ct rfl _ _ gb61001 81 #[.string t61005, .slice Ao16 t61009.length co16, .string t61003] (0, 0) _ rfl (by (with_reducible repeat (first | refine blk_drewN ?_ _ | refine blk_drew ?_ | refine blk_alloc ?_ _)); refine blk_put (cs := #[.string t61005, .slice Ao16 t61009.length co16, .string t61003]) ?_ 2 _ rfl; (with_reducible repeat (first | refine blk_drewN ?_ _ | refine blk_drew ?_ | refine blk_alloc ?_ _)); refine blk_put (cs := #[.string t61005, .slice Ao16 t61009.length co16, .string t61003]) ?_ 1 _ rfl; (with_reducible repeat (first | refine blk_drewN ?_ _ | refine blk_drew ?_ | refine blk_alloc ?_ _)); refine blk_put (cs := #[.string t61005, .slice Ao16 t61009.length co16, .string t61003]) ?_ 0 _ rfl; (with_reducible repeat (first | refine blk_drewN ?_ _ | refine blk_drew ?_ | refine blk_alloc ?_ _)); refine blk_put (cs := #[.string t61005, .slice none 0 0, .string t61003]) ?_ 1 _ rfl; (with_reducible repeat (first | refine blk_drewN ?_ _ | refine blk_drew ?_ | refine blk_alloc ?_ _)); exact BK61001.out) Tryd.underlying81 rfl (by kernel_rfl)) rfl ?_
        exact ⟨_, by first | rfl | (simp [errW_none, errW_some] <;> rfl) | (simp [*, errW_none, errW_some] <;> rfl), by (with_reducible repeat (first | apply Kd.R_alloc | apply Kd.R_drewN | apply Kd.R_drew)); exact Kd.R_mono (Kd.R_far (p := ⟨gb61001, 2, none⟩) (Kd.R_far (p := ⟨gb61001, 1, none⟩) (Kd.R_far (p := ⟨gb61001, 0, none⟩) (Kd.R_far (p := ⟨gb61001, 1, none⟩) (Kd.R_types HO61012.out BK61001.out (by decide)) (fun _ hk => hk.2) (.slice Ao16 t61009.length co16)) (fun _ hk => hk.2) (.string t61005)) (fun _ hk => hk.2) (.slice Ao16 t61009.length co16)) (fun _ hk => hk.2) (.string t61003)) (fun _ hk => trivial), by repeat (first | (with_reducible first | exact HB.out | apply below_alloc | apply pw_below_drewN | apply below_drew1 | refine below_set ?_ GE61001.out) | exact HB.out)⟩
      · rw [if_neg c8] at H
        have c8b0 : (t61010 == 0) = false := beq_eq_false_iff_ne.mpr c8
        have c8b1 : (t61010 != 0) = true := bne_iff_ne.mpr c8
        simp only [Option.some.injEq, Prod.mk.injEq] at H
        obtain ⟨rfl, rfl, rfl, rfl⟩ := H
        go_enter Tryd.func60, Tryd.ntmps60
        go_wp2_with (first | ((with_reducible refine gate_dst (N := 2) rfl ?_); refine box_event ?hg (N := 2) ?hd (cs := #[.string (⟨#[]⟩ : ByteArray), .slice none 0 0, .string (⟨#[]⟩ : ByteArray)]) (t := 81) ?hr ?_; (case hd => rfl); (case hg => rfl); (case hr => first | (go_simp; done) | (go_simp; rfl)); intro gb61001 hg w18 hbox hb; have n0_ := Aside0.mk (below_step (by repeat (first | (with_reducible first | exact HB.out | apply below_alloc | apply pw_below_drewN | apply below_drew1) | exact HB.out)) hb); have n1_ := Aside0.mk (hbox); have n2_ := Aside0.mk ((by rw [hg]; exact (below_size (by repeat (first | (with_reducible first | exact HB.out | apply below_alloc | apply pw_below_drewN | apply below_drew1) | exact HB.out))) : w.heap.size ≤ gb61001)); have n3_ := Aside0.mk ((by rw [hg]; exact (below_size (by repeat (first | (with_reducible first | exact HB.out | apply below_alloc | apply pw_below_drewN | apply below_drew1) | exact HB.out))) : w.heap.size ≤ gb61001)); clear HB; have HB := n0_; have BK61001 := n1_; have GW61001 := n2_; have GE61001 := n3_; clear n0_ n1_ n2_ n3_; clear hb hbox hg) | ((with_reducible refine gate_callee (f := 80) rfl ?_); refine goesL_ (some 10) rfl rfl Tryd.func80 (by kernel_rfl) rfl #[.string a0, .string (⟨#[58]⟩ : ByteArray)] rfl (by (try simp only [List.map_toArray, List.map_cons, List.map_nil]); first | done | rfl | (simp only [List.length_drop, List.length_take]; rfl)) ?_; (with_reducible refine (strings_Cut.calls a0 (⟨#[58]⟩ : ByteArray) t61002 t61003 t61004 _ A2.out).mono ?_); rintro e w19 ⟨rfl, hb⟩; refine ⟨_, rfl, ?_⟩; have n0_ := Aside0.mk (blk_below (g := gb61001) (o := .cells #[.string (⟨#[]⟩ : ByteArray), .slice none 0 0, .string (⟨#[]⟩ : ByteArray)] 81 (0, 0)) (by (with_reducible repeat (first | refine blk_drewN ?_ _ | refine blk_drew ?_ | refine blk_alloc ?_ _)); exact BK61001.out) hb); have n1_ := Aside0.mk (below_step (by repeat (first | (with_reducible first | exact HB.out | apply below_alloc | apply pw_below_drewN | apply below_drew1 | refine below_set ?_ GE61001.out) | exact HB.out)) hb); clear BK61001; clear HB; have BK61001 := n0_; have HB := n1_; clear n0_ n1_; (try clear hb); (try clear hb2); (try clear hk); (try clear hi); have hcz20_0 : w19.cell? ⟨gb61001, 0, none⟩ = some (.string (⟨#[]⟩ : ByteArray)) := (blk_cell BK61001.out 0).trans rfl; have hcz20_1 : w19.cell? ⟨gb61001, 1, none⟩ = some (.slice none 0 0) := (blk_cell BK61001.out 1).trans rfl; have hcz20_2 : w19.cell? ⟨gb61001, 2, none⟩ = some (.string (⟨#[]⟩ : ByteArray)) := (blk_cell BK61001.out 2).trans rfl; have hfz20_0 := blk_frozen BK61001.out 0; have hfz20_1 := blk_frozen BK61001.out 1; have hfz20_2 := blk_frozen BK61001.out 2) | ((with_reducible refine gate_callee (f := 80) rfl ?_); refine goesL_ (some 17) rfl rfl Tryd.func80 (by kernel_rfl) rfl #[.string t61002, .string (⟨#[64]⟩ : ByteArray)] rfl (by (try simp only [List.map_toArray, List.map_cons, List.map_nil]); first | done | rfl | (simp only [List.length_drop, List.length_take]; rfl)) ?_; (with_reducible refine (strings_Cut.calls t61002 (⟨#[64]⟩ : ByteArray) t61005 t61006 true _ A3.out).mono ?_); rintro e w21 ⟨rfl, hb⟩; refine ⟨_, rfl, ?_⟩; have n0_ := Aside0.mk (blk_below (g := gb61001) (o := .cells #[.string (⟨#[]⟩ : ByteArray), .slice none 0 0, .string t61003] 81 (0, 0)) (by (with_reducible repeat (first | refine blk_drewN ?_ _ | refine blk_drew ?_ | refine blk_alloc ?_ _)); refine blk_put (cs := #[.string (⟨#[]⟩ : ByteArray), .slice none 0 0, .string (⟨#[]⟩ : ByteArray)]) ?_ 2 _ rfl; (with_reducible repeat (first | refine blk_drewN ?_ _ | refine blk_drew ?_ | refine blk_alloc ?_ _)); exact BK61001.out) hb); have n1_ := Aside0.mk (below_step (by repeat (first | (with_reducible first | exact HB.out | apply below_alloc | apply pw_below_drewN | apply below_drew1 | refine below_set ?_ GE61001.out) | exact HB.out)) hb); clear BK61001; clear HB; have BK61001 := n0_; have HB := n1_; clear n0_ n1_; (try clear hb); (try clear hb2); (try clear hk); (try clear hi); have hcz22_0 : w21.cell? ⟨gb61001, 0, none⟩ = some (.string (⟨#[]⟩ : ByteArray)) := (blk_cell BK61001.out 0).trans rfl; have hcz22_1 : w21.cell? ⟨gb61001, 1, none⟩ = some (.slice none 0 0) := (blk_cell BK61001.out 1).trans rfl; have hcz22_2 : w21.cell? ⟨gb61001, 2, none⟩ = some (.string t61003) := (blk_cell BK61001.out 2).trans rfl; have hfz22_0 := blk_frozen BK61001.out 0; have hfz22_1 := blk_frozen BK61001.out 1; have hfz22_2 := blk_frozen BK61001.out 2) | ((with_reducible refine gate_callee (f := 15) rfl ?_); refine goesL_ (some 24) rfl rfl Tryd.func15 (by kernel_rfl) rfl #[.string t61005] rfl (by (try simp only [List.map_toArray, List.map_cons, List.map_nil]); first | done | rfl | (simp only [List.length_drop, List.length_take]; rfl)) ?_; (with_reducible refine (prop_Named.calls k t61005 true _ A4.out).mono ?_); rintro e w23 ⟨rfl, hb⟩; refine ⟨_, rfl, ?_⟩; have n0_ := Aside0.mk (blk_below (g := gb61001) (o := .cells #[.string t61005, .slice none 0 0, .string t61003] 81 (0, 0)) (by (with_reducible repeat (first | refine blk_drewN ?_ _ | refine blk_drew ?_ | refine blk_alloc ?_ _)); refine blk_put (cs := #[.string (⟨#[]⟩ : ByteArray), .slice none 0 0, .string t61003]) ?_ 0 _ rfl; (with_reducible repeat (first | refine blk_drewN ?_ _ | refine blk_drew ?_ | refine blk_alloc ?_ _)); exact BK61001.out) hb); have n1_ := Aside0.mk (below_step (by repeat (first | (with_reducible first | exact HB.out | apply below_alloc | apply pw_below_drewN | apply below_drew1 | refine below_set ?_ GE61001.out) | exact HB.out)) hb); clear BK61001; clear HB; have BK61001 := n0_; have HB := n1_; clear n0_ n1_; (try clear hb); (try clear hb2); (try clear hk); (try clear hi)) | ((with_reducible refine gate_callee (f := 35) rfl ?_); refine goesL_ (some 30) rfl rfl Tryd.func35 (by kernel_rfl) rfl #[.string t61006] rfl (by (try simp only [List.map_toArray, List.map_cons, List.map_nil]); first | done | rfl | (simp only [List.length_drop, List.length_take]; rfl)) ?_; (with_reducible refine (prop_ParseUnit.calls t61006 t61009 t61010 _ A7.out).mono ?_); rintro e w24 ⟨v61011, rfl, ho0, hb⟩; refine ⟨_, rfl, ?_⟩; have n0_ := Aside0.mk (Kd.R_lower ho0 (below_size (by repeat (first | (with_reducible first | exact HB.out | apply below_alloc | apply pw_below_drewN | apply below_drew1 | refine below_set ?_ GE61001.out) | exact HB.out)))); have n1_ := Aside0.mk (blk_below (g := gb61001) (o := .cells #[.string t61005, .slice none 0 0, .string t61003] 81 (0, 0)) (by (with_reducible repeat (first | refine blk_drewN ?_ _ | refine blk_drew ?_ | refine blk_alloc ?_ _)); exact BK61001.out) hb); have n2_ := Aside0.mk (below_step (by repeat (first | (with_reducible first | exact HB.out | apply below_alloc | apply pw_below_drewN | apply below_drew1 | refine below_set ?_ GE61001.out) | exact HB.out)) hb); clear BK61001; clear HB; have HO61012 := n0_; have BK61001 := n1_; have HB := n2_; clear n0_ n1_ n2_; (try clear hb); (try clear hb2); (try clear hk); (try clear hi); (try clear ho0); obtain ⟨Ao25, co25, eo25⟩ := Kd.R_slice HO61012.out; subst eo25; have hcz26_0 : w24.cell? ⟨gb61001, 0, none⟩ = some (.string t61005) := (blk_cell BK61001.out 0).trans rfl; have hcz26_1 : w24.cell? ⟨gb61001, 1, none⟩ = some (.slice none 0 0) := (blk_cell BK61001.out 1).trans rfl; have hcz26_2 : w24.cell? ⟨gb61001, 2, none⟩ = some (.string t61003) := (blk_cell BK61001.out 2).trans rfl; have hfz26_0 := blk_frozen BK61001.out 0; have hfz26_1 := blk_frozen BK61001.out 1; have hfz26_2 := blk_frozen BK61001.out 2))
        refine bodyPost_ret (results_ct rfl _ _ gb61001 81 #[.string (⟨#[]⟩ : ByteArray), .slice none 0 0, .string (⟨#[]⟩ : ByteArray)] (0, 0) _ rfl (by (with_reducible repeat (first | refine blk_drewN ?_ _ | refine blk_drew ?_ | refine blk_alloc ?_ _)); refine blk_put (cs := #[.string (⟨#[]⟩ : ByteArray), .slice none 0 0, .string t61003]) ?_ 2 _ rfl; (with_reducible repeat (first | refine blk_drewN ?_ _ | refine blk_drew ?_ | refine blk_alloc ?_ _)); refine blk_put (cs := #[.string (⟨#[]⟩ : ByteArray), .slice Ao25 t61009.length co25, .string t61003]) ?_ 1 _ rfl; (with_reducible repeat (first | refine blk_drewN ?_ _ | refine blk_drew ?_ | refine blk_alloc ?_ _)); refine blk_put (cs := #[.string t61005, .slice Ao25 t61009.length co25, .string t61003]) ?_ 0 _ rfl; (with_reducible repeat (first | refine blk_drewN ?_ _ | refine blk_drew ?_ | refine blk_alloc ?_ _)); refine blk_put (cs := #[.string t61005, .slice none 0 0, .string t61003]) ?_ 1 _ rfl; (with_reducible repeat (first | refine blk_drewN ?_ _ | refine blk_drew ?_ | refine blk_alloc ?_ _)); exact BK61001.out) Tryd.underlying81 rfl (by kernel_rfl)) rfl ?_
        exact ⟨_, by first | rfl | (simp [errW_none, errW_some] <;> rfl) | (simp [*, errW_none, errW_some] <;> rfl), by first | exact Kd.R_nil _ _ _ _ _ | exact Kd.N_nil _ _ _ _ _ | exact Kd.V_nil _ _ _ _ _ | exact Kd.Q_nil _ _ _ _ _ | exact Kd.S_nil _ _ _ _ _, by repeat (first | (with_reducible first | exact HB.out | apply below_alloc | apply pw_below_drewN | apply below_drew1 | refine below_set ?_ GE61001.out) | exact HB.out)⟩
    · replace c6 := Bool.eq_false_iff.mpr c6
      subst c6
      have H1 : (some (t61005, ([] : List Int), t61003, true)) = some (r1, r2, r3, r4) := by rw [if_neg (show ¬ (false = true) by decide)] at H; exact H
      clear H
      have H := H1
      clear H1
      simp only [Option.some.injEq, Prod.mk.injEq] at H
      obtain ⟨rfl, rfl, rfl, rfl⟩ := H
      go_enter Tryd.func60, Tryd.ntmps60
      go_wp2_with (first | ((with_reducible refine gate_dst (N := 2) rfl ?_); refine box_event ?hg (N := 2) ?hd (cs := #[.string (⟨#[]⟩ : ByteArray), .slice none 0 0, .string (⟨#[]⟩ : ByteArray)]) (t := 81) ?hr ?_; (case hd => rfl); (case hg => rfl); (case hr => first | (go_simp; done) | (go_simp; rfl)); intro gb61001 hg w27 hbox hb; have n0_ := Aside0.mk (below_step (by repeat (first | (with_reducible first | exact HB.out | apply below_alloc | apply pw_below_drewN | apply below_drew1) | exact HB.out)) hb); have n1_ := Aside0.mk (hbox); have n2_ := Aside0.mk ((by rw [hg]; exact (below_size (by repeat (first | (with_reducible first | exact HB.out | apply below_alloc | apply pw_below_drewN | apply below_drew1) | exact HB.out))) : w.heap.size ≤ gb61001)); have n3_ := Aside0.mk ((by rw [hg]; exact (below_size (by repeat (first | (with_reducible first | exact HB.out | apply below_alloc | apply pw_below_drewN | apply below_drew1) | exact HB.out))) : w.heap.size ≤ gb61001)); clear HB; have HB := n0_; have BK61001 := n1_; have GW61001 := n2_; have GE61001 := n3_; clear n0_ n1_ n2_ n3_; clear hb hbox hg) | ((with_reducible refine gate_callee (f := 80) rfl ?_); refine goesL_ (some 10) rfl rfl Tryd.func80 (by kernel_rfl) rfl #[.string a0, .string (⟨#[58]⟩ : ByteArray)] rfl (by (try simp only [List.map_toArray, List.map_cons, List.map_nil]); first | done | rfl | (simp only [List.length_drop, List.length_take]; rfl)) ?_; (with_reducible refine (strings_Cut.calls a0 (⟨#[58]⟩ : ByteArray) t61002 t61003 t61004 _ A2.out).mono ?_); rintro e w28 ⟨rfl, hb⟩; refine ⟨_, rfl, ?_⟩; have n0_ := Aside0.mk (blk_below (g := gb61001) (o := .cells #[.string (⟨#[]⟩ : ByteArray), .slice none 0 0, .string (⟨#[]⟩ : ByteArray)] 81 (0, 0)) (by (with_reducible repeat (first | refine blk_drewN ?_ _ | refine blk_drew ?_ | refine blk_alloc ?_ _)); exact BK61001.out) hb); have n1_ := Aside0.mk (below_step (by repeat (first | (with_reducible first | exact HB.out | apply below_alloc | apply pw_below_drewN | apply below_drew1 | refine below_set ?_ GE61001.out) | exact HB.out)) hb); clear BK61001; clear HB; have BK61001 := n0_; have HB := n1_; clear n0_ n1_; (try clear hb); (try clear hb2); (try clear hk); (try clear hi); have hcz29_0 : w28.cell? ⟨gb61001, 0, none⟩ = some (.string (⟨#[]⟩ : ByteArray)) := (blk_cell BK61001.out 0).trans rfl; have hcz29_1 : w28.cell? ⟨gb61001, 1, none⟩ = some (.slice none 0 0) := (blk_cell BK61001.out 1).trans rfl; have hcz29_2 : w28.cell? ⟨gb61001, 2, none⟩ = some (.string (⟨#[]⟩ : ByteArray)) := (blk_cell BK61001.out 2).trans rfl; have hfz29_0 := blk_frozen BK61001.out 0; have hfz29_1 := blk_frozen BK61001.out 1; have hfz29_2 := blk_frozen BK61001.out 2) | ((with_reducible refine gate_callee (f := 80) rfl ?_); refine goesL_ (some 17) rfl rfl Tryd.func80 (by kernel_rfl) rfl #[.string t61002, .string (⟨#[64]⟩ : ByteArray)] rfl (by (try simp only [List.map_toArray, List.map_cons, List.map_nil]); first | done | rfl | (simp only [List.length_drop, List.length_take]; rfl)) ?_; (with_reducible refine (strings_Cut.calls t61002 (⟨#[64]⟩ : ByteArray) t61005 t61006 false _ A3.out).mono ?_); rintro e w30 ⟨rfl, hb⟩; refine ⟨_, rfl, ?_⟩; have n0_ := Aside0.mk (blk_below (g := gb61001) (o := .cells #[.string (⟨#[]⟩ : ByteArray), .slice none 0 0, .string t61003] 81 (0, 0)) (by (with_reducible repeat (first | refine blk_drewN ?_ _ | refine blk_drew ?_ | refine blk_alloc ?_ _)); refine blk_put (cs := #[.string (⟨#[]⟩ : ByteArray), .slice none 0 0, .string (⟨#[]⟩ : ByteArray)]) ?_ 2 _ rfl; (with_reducible repeat (first | refine blk_drewN ?_ _ | refine blk_drew ?_ | refine blk_alloc ?_ _)); exact BK61001.out) hb); have n1_ := Aside0.mk (below_step (by repeat (first | (with_reducible first | exact HB.out | apply below_alloc | apply pw_below_drewN | apply below_drew1 | refine below_set ?_ GE61001.out) | exact HB.out)) hb); clear BK61001; clear HB; have BK61001 := n0_; have HB := n1_; clear n0_ n1_; (try clear hb); (try clear hb2); (try clear hk); (try clear hi); have hcz31_0 : w30.cell? ⟨gb61001, 0, none⟩ = some (.string (⟨#[]⟩ : ByteArray)) := (blk_cell BK61001.out 0).trans rfl; have hcz31_1 : w30.cell? ⟨gb61001, 1, none⟩ = some (.slice none 0 0) := (blk_cell BK61001.out 1).trans rfl; have hcz31_2 : w30.cell? ⟨gb61001, 2, none⟩ = some (.string t61003) := (blk_cell BK61001.out 2).trans rfl; have hfz31_0 := blk_frozen BK61001.out 0; have hfz31_1 := blk_frozen BK61001.out 1; have hfz31_2 := blk_frozen BK61001.out 2) | ((with_reducible refine gate_callee (f := 15) rfl ?_); refine goesL_ (some 24) rfl rfl Tryd.func15 (by kernel_rfl) rfl #[.string t61005] rfl (by (try simp only [List.map_toArray, List.map_cons, List.map_nil]); first | done | rfl | (simp only [List.length_drop, List.length_take]; rfl)) ?_; (with_reducible refine (prop_Named.calls k t61005 true _ A4.out).mono ?_); rintro e w32 ⟨rfl, hb⟩; refine ⟨_, rfl, ?_⟩; have n0_ := Aside0.mk (blk_below (g := gb61001) (o := .cells #[.string t61005, .slice none 0 0, .string t61003] 81 (0, 0)) (by (with_reducible repeat (first | refine blk_drewN ?_ _ | refine blk_drew ?_ | refine blk_alloc ?_ _)); refine blk_put (cs := #[.string (⟨#[]⟩ : ByteArray), .slice none 0 0, .string t61003]) ?_ 0 _ rfl; (with_reducible repeat (first | refine blk_drewN ?_ _ | refine blk_drew ?_ | refine blk_alloc ?_ _)); exact BK61001.out) hb); have n1_ := Aside0.mk (below_step (by repeat (first | (with_reducible first | exact HB.out | apply below_alloc | apply pw_below_drewN | apply below_drew1 | refine below_set ?_ GE61001.out) | exact HB.out)) hb); clear BK61001; clear HB; have BK61001 := n0_; have HB := n1_; clear n0_ n1_; (try clear hb); (try clear hb2); (try clear hk); (try clear hi); have hcz33_0 : w32.cell? ⟨gb61001, 0, none⟩ = some (.string t61005) := (blk_cell BK61001.out 0).trans rfl; have hcz33_1 : w32.cell? ⟨gb61001, 1, none⟩ = some (.slice none 0 0) := (blk_cell BK61001.out 1).trans rfl; have hcz33_2 : w32.cell? ⟨gb61001, 2, none⟩ = some (.string t61003) := (blk_cell BK61001.out 2).trans rfl; have hfz33_0 := blk_frozen BK61001.out 0; have hfz33_1 := blk_frozen BK61001.out 1; have hfz33_2 := blk_frozen BK61001.out 2))
      refine bodyPost_ret (results_ct rfl _ _ gb61001 81 #[.string t61005, .slice none 0 0, .string t61003] (0, 0) _ rfl (by (with_reducible repeat (first | refine blk_drewN ?_ _ | refine blk_drew ?_ | refine blk_alloc ?_ _)); refine blk_put (cs := #[.string t61005, .slice none 0 0, .string t61003]) ?_ 2 _ rfl; (with_reducible repeat (first | refine blk_drewN ?_ _ | refine blk_drew ?_ | refine blk_alloc ?_ _)); refine blk_put (cs := #[.string t61005, .slice none 0 0, .string t61003]) ?_ 1 _ rfl; (with_reducible repeat (first | refine blk_drewN ?_ _ | refine blk_drew ?_ | refine blk_alloc ?_ _)); refine blk_put (cs := #[.string t61005, .slice none 0 0, .string t61003]) ?_ 0 _ rfl; (with_reducible repeat (first | refine blk_drewN ?_ _ | refine blk_drew ?_ | refine blk_alloc ?_ _)); exact BK61001.out) Tryd.underlying81 rfl (by kernel_rfl)) rfl ?_
      exact ⟨_, by first | rfl | (simp [errW_none, errW_some] <;> rfl) | (simp [*, errW_none, errW_some] <;> rfl), by first | exact Kd.R_nil _ _ _ _ _ | exact Kd.N_nil _ _ _ _ _ | exact Kd.V_nil _ _ _ _ _ | exact Kd.Q_nil _ _ _ _ _ | exact Kd.S_nil _ _ _ _ _, by repeat (first | (with_reducible first | exact HB.out | apply below_alloc | apply pw_below_drewN | apply below_drew1 | refine below_set ?_ GE61001.out) | exact HB.out)⟩
  · replace c5 := Bool.eq_false_iff.mpr c5
    subst c5
    have H1 : (some ((⟨#[]⟩ : ByteArray), ([] : List Int), (⟨#[]⟩ : ByteArray), false)) = some (r1, r2, r3, r4) := by rw [if_neg (show ¬ (false = true) by decide)] at H; exact H
    clear H
    have H := H1
    clear H1
    simp only [Option.some.injEq, Prod.mk.injEq] at H
    obtain ⟨rfl, rfl, rfl, rfl⟩ := H
    go_enter Tryd.func60, Tryd.ntmps60
    go_wp2_with (first | ((with_reducible refine gate_dst (N := 2) rfl ?_); refine box_event ?hg (N := 2) ?hd (cs := #[.string (⟨#[]⟩ : ByteArray), .slice none 0 0, .string (⟨#[]⟩ : ByteArray)]) (t := 81) ?hr ?_; (case hd => rfl); (case hg => rfl); (case hr => first | (go_simp; done) | (go_simp; rfl)); intro gb61001 hg w34 hbox hb; have n0_ := Aside0.mk (below_step (by repeat (first | (with_reducible first | exact HB.out | apply below_alloc | apply pw_below_drewN | apply below_drew1) | exact HB.out)) hb); have n1_ := Aside0.mk (hbox); have n2_ := Aside0.mk ((by rw [hg]; exact (below_size (by repeat (first | (with_reducible first | exact HB.out | apply below_alloc | apply pw_below_drewN | apply below_drew1) | exact HB.out))) : w.heap.size ≤ gb61001)); have n3_ := Aside0.mk ((by rw [hg]; exact (below_size (by repeat (first | (with_reducible first | exact HB.out | apply below_alloc | apply pw_below_drewN | apply below_drew1) | exact HB.out))) : w.heap.size ≤ gb61001)); clear HB; have HB := n0_; have BK61001 := n1_; have GW61001 := n2_; have GE61001 := n3_; clear n0_ n1_ n2_ n3_; clear hb hbox hg) | ((with_reducible refine gate_callee (f := 80) rfl ?_); refine goesL_ (some 10) rfl rfl Tryd.func80 (by kernel_rfl) rfl #[.string a0, .string (⟨#[58]⟩ : ByteArray)] rfl (by (try simp only [List.map_toArray, List.map_cons, List.map_nil]); first | done | rfl | (simp only [List.length_drop, List.length_take]; rfl)) ?_; (with_reducible refine (strings_Cut.calls a0 (⟨#[58]⟩ : ByteArray) t61002 t61003 t61004 _ A2.out).mono ?_); rintro e w35 ⟨rfl, hb⟩; refine ⟨_, rfl, ?_⟩; have n0_ := Aside0.mk (blk_below (g := gb61001) (o := .cells #[.string (⟨#[]⟩ : ByteArray), .slice none 0 0, .string (⟨#[]⟩ : ByteArray)] 81 (0, 0)) (by (with_reducible repeat (first | refine blk_drewN ?_ _ | refine blk_drew ?_ | refine blk_alloc ?_ _)); exact BK61001.out) hb); have n1_ := Aside0.mk (below_step (by repeat (first | (with_reducible first | exact HB.out | apply below_alloc | apply pw_below_drewN | apply below_drew1 | refine below_set ?_ GE61001.out) | exact HB.out)) hb); clear BK61001; clear HB; have BK61001 := n0_; have HB := n1_; clear n0_ n1_; (try clear hb); (try clear hb2); (try clear hk); (try clear hi); have hcz36_0 : w35.cell? ⟨gb61001, 0, none⟩ = some (.string (⟨#[]⟩ : ByteArray)) := (blk_cell BK61001.out 0).trans rfl; have hcz36_1 : w35.cell? ⟨gb61001, 1, none⟩ = some (.slice none 0 0) := (blk_cell BK61001.out 1).trans rfl; have hcz36_2 : w35.cell? ⟨gb61001, 2, none⟩ = some (.string (⟨#[]⟩ : ByteArray)) := (blk_cell BK61001.out 2).trans rfl; have hfz36_0 := blk_frozen BK61001.out 0; have hfz36_1 := blk_frozen BK61001.out 1; have hfz36_2 := blk_frozen BK61001.out 2) | ((with_reducible refine gate_callee (f := 80) rfl ?_); refine goesL_ (some 17) rfl rfl Tryd.func80 (by kernel_rfl) rfl #[.string t61002, .string (⟨#[64]⟩ : ByteArray)] rfl (by (try simp only [List.map_toArray, List.map_cons, List.map_nil]); first | done | rfl | (simp only [List.length_drop, List.length_take]; rfl)) ?_; (with_reducible refine (strings_Cut.calls t61002 (⟨#[64]⟩ : ByteArray) t61005 t61006 t61007 _ A3.out).mono ?_); rintro e w37 ⟨rfl, hb⟩; refine ⟨_, rfl, ?_⟩; have n0_ := Aside0.mk (blk_below (g := gb61001) (o := .cells #[.string (⟨#[]⟩ : ByteArray), .slice none 0 0, .string t61003] 81 (0, 0)) (by (with_reducible repeat (first | refine blk_drewN ?_ _ | refine blk_drew ?_ | refine blk_alloc ?_ _)); refine blk_put (cs := #[.string (⟨#[]⟩ : ByteArray), .slice none 0 0, .string (⟨#[]⟩ : ByteArray)]) ?_ 2 _ rfl; (with_reducible repeat (first | refine blk_drewN ?_ _ | refine blk_drew ?_ | refine blk_alloc ?_ _)); exact BK61001.out) hb); have n1_ := Aside0.mk (below_step (by repeat (first | (with_reducible first | exact HB.out | apply below_alloc | apply pw_below_drewN | apply below_drew1 | refine below_set ?_ GE61001.out) | exact HB.out)) hb); clear BK61001; clear HB; have BK61001 := n0_; have HB := n1_; clear n0_ n1_; (try clear hb); (try clear hb2); (try clear hk); (try clear hi); have hcz38_0 : w37.cell? ⟨gb61001, 0, none⟩ = some (.string (⟨#[]⟩ : ByteArray)) := (blk_cell BK61001.out 0).trans rfl; have hcz38_1 : w37.cell? ⟨gb61001, 1, none⟩ = some (.slice none 0 0) := (blk_cell BK61001.out 1).trans rfl; have hcz38_2 : w37.cell? ⟨gb61001, 2, none⟩ = some (.string t61003) := (blk_cell BK61001.out 2).trans rfl; have hfz38_0 := blk_frozen BK61001.out 0; have hfz38_1 := blk_frozen BK61001.out 1; have hfz38_2 := blk_frozen BK61001.out 2) | ((with_reducible refine gate_callee (f := 15) rfl ?_); refine goesL_ (some 24) rfl rfl Tryd.func15 (by kernel_rfl) rfl #[.string t61005] rfl (by (try simp only [List.map_toArray, List.map_cons, List.map_nil]); first | done | rfl | (simp only [List.length_drop, List.length_take]; rfl)) ?_; (with_reducible refine (prop_Named.calls k t61005 false _ A4.out).mono ?_); rintro e w39 ⟨rfl, hb⟩; refine ⟨_, rfl, ?_⟩; have n0_ := Aside0.mk (blk_below (g := gb61001) (o := .cells #[.string t61005, .slice none 0 0, .string t61003] 81 (0, 0)) (by (with_reducible repeat (first | refine blk_drewN ?_ _ | refine blk_drew ?_ | refine blk_alloc ?_ _)); refine blk_put (cs := #[.string (⟨#[]⟩ : ByteArray), .slice none 0 0, .string t61003]) ?_ 0 _ rfl; (with_reducible repeat (first | refine blk_drewN ?_ _ | refine blk_drew ?_ | refine blk_alloc ?_ _)); exact BK61001.out) hb); have n1_ := Aside0.mk (below_step (by repeat (first | (with_reducible first | exact HB.out | apply below_alloc | apply pw_below_drewN | apply below_drew1 | refine below_set ?_ GE61001.out) | exact HB.out)) hb); clear BK61001; clear HB; have BK61001 := n0_; have HB := n1_; clear n0_ n1_; (try clear hb); (try clear hb2); (try clear hk); (try clear hi); have hcz40_0 : w39.cell? ⟨gb61001, 0, none⟩ = some (.string t61005) := (blk_cell BK61001.out 0).trans rfl; have hcz40_1 : w39.cell? ⟨gb61001, 1, none⟩ = some (.slice none 0 0) := (blk_cell BK61001.out 1).trans rfl; have hcz40_2 : w39.cell? ⟨gb61001, 2, none⟩ = some (.string t61003) := (blk_cell BK61001.out 2).trans rfl; have hfz40_0 := blk_frozen BK61001.out 0; have hfz40_1 := blk_frozen BK61001.out 1; have hfz40_2 := blk_frozen BK61001.out 2))
    refine bodyPost_ret (results_ct rfl _ _ gb61001 81 #[.string (⟨#[]⟩ : ByteArray), .slice none 0 0, .string (⟨#[]⟩ : ByteArray)] (0, 0) _ rfl (by (with_reducible repeat (first | refine blk_drewN ?_ _ | refine blk_drew ?_ | refine blk_alloc ?_ _)); refine blk_put (cs := #[.string (⟨#[]⟩ : ByteArray), .slice none 0 0, .string t61003]) ?_ 2 _ rfl; (with_reducible repeat (first | refine blk_drewN ?_ _ | refine blk_drew ?_ | refine blk_alloc ?_ _)); refine blk_put (cs := #[.string (⟨#[]⟩ : ByteArray), .slice none 0 0, .string t61003]) ?_ 1 _ rfl; (with_reducible repeat (first | refine blk_drewN ?_ _ | refine blk_drew ?_ | refine blk_alloc ?_ _)); refine blk_put (cs := #[.string t61005, .slice none 0 0, .string t61003]) ?_ 0 _ rfl; (with_reducible repeat (first | refine blk_drewN ?_ _ | refine blk_drew ?_ | refine blk_alloc ?_ _)); exact BK61001.out) Tryd.underlying81 rfl (by kernel_rfl)) rfl ?_
    exact ⟨_, by first | rfl | (simp [errW_none, errW_some] <;> rfl) | (simp [*, errW_none, errW_some] <;> rfl), by first | exact Kd.R_nil _ _ _ _ _ | exact Kd.N_nil _ _ _ _ _ | exact Kd.V_nil _ _ _ _ _ | exact Kd.Q_nil _ _ _ _ _ | exact Kd.S_nil _ _ _ _ _, by repeat (first | (with_reducible first | exact HB.out | apply below_alloc | apply pw_below_drewN | apply below_drew1 | refine below_set ?_ GE61001.out) | exact HB.out)⟩

end Go.Proofs.YtlhnaplmphdhlaaDoor.Q
end
section
set_option linter.unusedSimpArgs false
set_option linter.unusedVariables false
namespace Go.Proofs.YtlhnaplmphdhlaaDoor.Q
open Go.RowKit Go.Proofs.YtlhnaplmphdhlaaDoorW.PrintWords Go.Proofs.YtlhnaplmphdhlaaDoorW.PrintLast
/-- A step of a text without a stroke. -/
def stepF (s : ByteArray) : S81 × Bool :=
  if namedF (headC 64 (headC 58 s)) = true then
    (if 0 ≤ ixC 64 (headC 58 s) then (if (unitF (tailC 64 (headC 58 s))).2 = 0 then (⟨headC 64 (headC 58 s), (unitF (tailC 64 (headC 58 s))).1, tailC 58 s⟩, true) else (⟨⟨#[]⟩, [], ⟨#[]⟩⟩, false))
    else (⟨headC 64 (headC 58 s), [], tailC 58 s⟩, true))
  else (⟨⟨#[]⟩, [], ⟨#[]⟩⟩, false)
theorem headC_size (c : UInt8) (s : ByteArray) : (headC c s).size ≤ s.size := by
  unfold headC
  split
  · rw [ByteArray.size_extract]; omega
  · exact Nat.le_refl _
theorem tailC_size (c : UInt8) (s : ByteArray) : (tailC c s).size ≤ s.size := by
  unfold tailC
  split
  · rw [ByteArray.size_extract]; omega
  · exact Nat.zero_le _
theorem step_eq (k : Nat) (hk : 100 ≤ k) (s : ByteArray) (hs : s.size ≤ 1000000) : path_step.f k s = some ((stepF s).1.f0, (stepF s).1.f1, (stepF s).1.f2, (stepF s).2) := by
  have h1 := headC_size 58 s
  have h2 := headC_size 64 (headC 58 s)
  have h3 := tailC_size 64 (headC 58 s)
  have e1 : strings_Cut.f s ⟨#[58]⟩ = some (headC 58 s, tailC 58 s, decide (0 ≤ ixC 58 s)) := by unfold strings_Cut.f; rw [if_pos (by omega)]
  have e2 : strings_Cut.f (headC 58 s) ⟨#[64]⟩ = some (headC 64 (headC 58 s), tailC 64 (headC 58 s), decide (0 ≤ ixC 64 (headC 58 s))) := by unfold strings_Cut.f; rw [if_pos (by omega)]
  have e3 : prop_ParseUnit.f (tailC 64 (headC 58 s)) = some (unitF (tailC 64 (headC 58 s))) := by unfold prop_ParseUnit.f; rw [if_pos (by omega)]
  unfold path_step.f stepF
  rw [e1, Option.bind_some, e2, Option.bind_some, named_eq k hk, Option.bind_some]
  by_cases hn : namedF (headC 64 (headC 58 s)) = true
  · rw [if_pos hn, if_pos hn]
    by_cases ha : 0 ≤ ixC 64 (headC 58 s)
    · rw [if_pos ha, if_pos (decide_eq_true ha), e3, Option.bind_some]
      by_cases hu : (unitF (tailC 64 (headC 58 s))).2 = 0
      · rw [if_pos hu, if_pos hu]
      · rw [if_neg hu, if_neg hu]
    · rw [if_neg ha, decide_eq_false ha, if_neg (show ¬ (false = true) by decide)]
  · rw [if_neg hn, if_neg hn]
def stepV (p : List UInt8) : S81 := (stepF (bOf p)).1
def okS (p : List UInt8) : Bool := (stepF (bOf p)).2
/-- What Parse answers. -/
def parseF (s : ByteArray) : List S81 × Int :=
  if 256 < s.size then ([], 3) else
  match s.data.toList with
  | [] => ([], 15)
  | a :: r => if a = 47 then (if r = [] then ([], 0) else if (cuts 47 r).all okS = true then ((cuts 47 r).map stepV, 0) else ([], 15)) else ([], 15)
end Go.Proofs.YtlhnaplmphdhlaaDoor.Q
end
section
set_option linter.unusedSimpArgs false
set_option linter.unusedVariables false
namespace Go.Proofs.YtlhnaplmphdhlaaDoor.Q
open Go.RowKit Go.Proofs.YtlhnaplmphdhlaaDoorW.PrintWords Go.Proofs.YtlhnaplmphdhlaaDoorW.PrintLast Go.Proofs.YtlhnaplmphdhlaaDoorW.PrintMore
attribute [local go_sem] max2_int min2_int max_two min_two max_three min_three max_four min_four
theorem cuts_at (c : UInt8) : ∀ (m : Nat) (l : List UInt8), (∀ j, j < m → l[j]? ≠ some c) → l[m]? = some c → cuts c l = l.take m :: cuts c (l.drop (m + 1))
  | _, [], _, h => by simp at h
  | 0, a :: l, _, h => by
    simp at h
    rw [cuts, if_pos h]
    rfl
  | m + 1, a :: l, h, hm => by
    have ha : ¬ a = c := fun e => h 0 (by omega) (by simp [e])
    rw [cuts, if_neg ha, cuts_at c m l (fun j hj => by have := h (j + 1) (by omega); simpa using this) (by simpa using hm)]
    rfl
theorem cuts_end (c : UInt8) : ∀ (l : List UInt8), (∀ j : Nat, l[j]? ≠ some c) → cuts c l = [l]
  | [], _ => rfl
  | a :: l, h => by
    have ha : ¬ a = c := fun e => h 0 (by simp [e])
    rw [cuts, if_neg ha, cuts_end c l (fun j => by have := h (j + 1); rwa [List.getElem?_cons_succ] at this)]
def unitG : List (List UInt8) → List Int → Nat → List Int × Int
  | [], out, n => if 4 < n then ([], 3) else (out, 0)
  | p :: ps, out, n => if okU p = true then unitG ps (if n + 1 ≤ 4 then out ++ [valU p] else out) (n + 1) else ([], 15)
theorem extract_bOf (s : ByteArray) (a b : Nat) : s.extract a b = bOf ((s.data.toList.drop a).take (b - a)) := by
  apply ByteArray.ext
  apply Array.ext'
  rw [ByteArray.data_extract, Array.toList_extract]
  unfold bOf
  rw [List.extract_eq_take_drop]
def tinderref05_ParseUnit.f (s : ByteArray) : Option (List Int × Int) := if s.size ≤ 1000000000 then some (unitF s) else none
end Go.Proofs.YtlhnaplmphdhlaaDoor.Q
end
section
namespace Go.Proofs.YtlhnaplmphdhlaaDoor.Q
open Go.RowKit Go.Proofs.YtlhnaplmphdhlaaDoorW.PrintWords Go.Proofs.YtlhnaplmphdhlaaDoorW.PrintLast Go.Proofs.YtlhnaplmphdhlaaDoorW.PrintMore
set_option linter.unusedVariables false
set_option linter.unusedSimpArgs false

attribute [local go_sem] max2_int min2_int max_two min_two max_three min_three max_four min_four
/-! ### tinderref07_Place: function 61 -/
def tinderref07_Place.l0 : Nat → ByteArray → Int → Int → Option (Int)
  | 0, _, _, _ => none
  | k + 1, x0, x1, x2 => if x1 < (x0.size : Int) then (if 0 ≤ x1 then (if (bt x0 x1) = x2 then (some x1) else (tinderref07_Place.l0 k x0 (wrap64 (x1 + 1)) x2)) else (none)) else (some x1)
def tinderref07_Place.f (k : Nat) (a0 : ByteArray) (a1 : Int) (a2 : Int) : Option (Int) := tinderref07_Place.l0 k a0 a1 a2

end Go.Proofs.YtlhnaplmphdhlaaDoor.Q
end
section
namespace Go.Proofs.YtlhnaplmphdhlaaDoor.Q
open Go.RowKit Go.Proofs.YtlhnaplmphdhlaaDoorW.PrintWords Go.Proofs.YtlhnaplmphdhlaaDoorW.PrintLast Go.Proofs.YtlhnaplmphdhlaaDoorW.PrintMore
set_option linter.unusedVariables false
set_option linter.unusedSimpArgs false

attribute [local go_sem] max2_int min2_int max_two min_two max_three min_three max_four min_four
/-! ### tinderref07_step: function 62 -/
def tinderref07_step.j0 : Nat → ByteArray → Int → ByteArray → ByteArray → Option (ByteArray × List Int × ByteArray × Bool)
  | 0, _, _, _, _ => none
  | k + 1, x0, x5, x63003000, x63003002 => if 0 ≤ x5 then (if x5 ≤ (x0.size : Int) then ((tinderref07_Place.f k (x0.extract 0 (x5 : Int).toNat) 0 64).bind fun t63004 => (if t63004 < ((x0.extract 0 (x5 : Int).toNat).size : Int) then (if 0 ≤ (wrap64 (t63004 + 1)) then (if (wrap64 (t63004 + 1)) ≤ ((x0.extract 0 (x5 : Int).toNat).size : Int) then ((tinderref05_ParseUnit.f ((x0.extract 0 (x5 : Int).toNat).extract ((wrap64 (t63004 + 1)) : Int).toNat (x0.extract 0 (x5 : Int).toNat).size)).bind fun bt63005 => (if bt63005.2 = 0 then (if 0 ≤ t63004 then (if t63004 ≤ ((x0.extract 0 (x5 : Int).toNat).size : Int) then ((tinderref05_Named.f k ((x0.extract 0 (x5 : Int).toNat).extract 0 (t63004 : Int).toNat)).bind fun t63009 => (some ((x0.extract 0 (x5 : Int).toNat).extract 0 (t63004 : Int).toNat, bt63005.1, x63003002, t63009))) else (none)) else (none)) else (some ((⟨#[]⟩ : ByteArray), ([] : List Int), (⟨#[]⟩ : ByteArray), false)))) else (none)) else (none)) else (if 0 ≤ t63004 then (if t63004 ≤ ((x0.extract 0 (x5 : Int).toNat).size : Int) then ((tinderref05_Named.f k ((x0.extract 0 (x5 : Int).toNat).extract 0 (t63004 : Int).toNat)).bind fun t63010 => (some ((x0.extract 0 (x5 : Int).toNat).extract 0 (t63004 : Int).toNat, ([] : List Int), x63003002, t63010))) else (none)) else (none)))) else (none)) else (none)
def tinderref07_step.f (k : Nat) (a0 : ByteArray) : Option (ByteArray × List Int × ByteArray × Bool) := (tinderref07_Place.f k a0 0 58).bind fun t63003 => (if t63003 < (a0.size : Int) then (if 0 ≤ (wrap64 (t63003 + 1)) then (if (wrap64 (t63003 + 1)) ≤ (a0.size : Int) then (tinderref07_step.j0 k a0 t63003 (⟨#[]⟩ : ByteArray) (a0.extract ((wrap64 (t63003 + 1)) : Int).toNat a0.size)) else (none)) else (none)) else (tinderref07_step.j0 k a0 t63003 (⟨#[]⟩ : ByteArray) (⟨#[]⟩ : ByteArray)))

end Go.Proofs.YtlhnaplmphdhlaaDoor.Q
end
section
namespace Go.Proofs.YtlhnaplmphdhlaaDoor.Q
open Go.RowKit Go.Proofs.YtlhnaplmphdhlaaDoorW.PrintWords Go.Proofs.YtlhnaplmphdhlaaDoorW.PrintLast Go.Proofs.YtlhnaplmphdhlaaDoorW.PrintMore
set_option linter.unusedVariables false
set_option linter.unusedSimpArgs false

attribute [local go_sem] max2_int min2_int max_two min_two max_three min_three max_four min_four
/-! ### tinderref07_Parse: function 41 -/
mutual
def tinderref07_Parse.j0 : Nat → ByteArray → List (S81) → Bool → Option ((List (S81)) × Int)
  | 0, _, _, _ => none
  | k + 1, x0, x4, x20 => if x20 = true then (some (([] : List (S81)), 15)) else (tinderref07_Parse.l0 k x0 x4 0)
def tinderref07_Parse.l0 : Nat → ByteArray → List (S81) → Int → Option ((List (S81)) × Int)
  | 0, _, _, _ => none
  | k + 1, x0, x4, x5 => if x5 < (x0.size : Int) then ((tinderref07_Place.f k x0 (wrap64 (x5 + 1)) 47).bind fun t42001 => (if 0 ≤ (wrap64 (x5 + 1)) then (if (wrap64 (x5 + 1)) ≤ t42001 then (if t42001 ≤ (x0.size : Int) then ((tinderref07_step.f k (x0.extract ((wrap64 (x5 + 1)) : Int).toNat (t42001 : Int).toNat)).bind fun bt42002 => (if bt42002.2.2.2 = true then (if x4.length < 2513169434916 then (tinderref07_Parse.l0 k x0 (x4 ++ [(⟨bt42002.1, bt42002.2.1, bt42002.2.2.1⟩ : S81)]) t42001) else (none)) else (some (([] : List (S81)), 15)))) else (none)) else (none)) else (none))) else (some (x4, 0))
end
def tinderref07_Parse.f (k : Nat) (a0 : ByteArray) : Option ((List (S81)) × Int) := if (a0.size : Int) > 256 then (some (([] : List (S81)), 3)) else (if a0.toList = ([47] : List UInt8) then (some (([] : List (S81)), 0)) else (if a0.toList = ([] : List UInt8) then (tinderref07_Parse.j0 k a0 ([] : List (S81)) true) else (if 0 < (a0.size : Int) then (tinderref07_Parse.j0 k a0 ([] : List (S81)) ((bt a0 0) != 47)) else (none))))

end Go.Proofs.YtlhnaplmphdhlaaDoor.Q
end
section
namespace Go.Proofs.YtlhnaplmphdhlaaDoor.Q
open Go.RowKit Go.Proofs.YtlhnaplmphdhlaaDoorW.PrintWords Go.Proofs.YtlhnaplmphdhlaaDoorW.PrintLast Go.Proofs.YtlhnaplmphdhlaaDoorW.PrintMore
set_option linter.unusedVariables false
set_option linter.unusedSimpArgs false

attribute [local go_sem] max2_int min2_int max_two min_two max_three min_three max_four min_four
/-! ### tinderref03_Same: function 28 -/
def tinderref03_Same.l0 : Nat → List Int → List Int → Int → Option (Bool)
  | 0, _, _, _ => none
  | k + 1, x0, x1, x5 => if x5 < (x0.length : Int) then (if 0 ≤ x5 then (if x5 < (x1.length : Int) then (if (rd x0 x5) = (rd x1 x5) then (tinderref03_Same.l0 k x0 x1 (wrap64 (x5 + 1))) else (some false)) else (none)) else (none)) else (some true)
def tinderref03_Same.f (k : Nat) (l0 : List Int) (l1 : List Int) : Option (Bool) := if (l0.length : Int) = (l1.length : Int) then (tinderref03_Same.l0 k l0 l1 0) else (some false)
set_option maxHeartbeats 8000000 in
set_option maxRecDepth 100000 in
theorem tinderref03_Same.calls (k : Nat) (A0 : Option Addr) (c0 : Nat) (l0 : List Int) (A1 : Option Addr) (c1 : Nat) (l1 : List Int) (r : Bool) (w : World) (hr0 : Kd.C (Kd.int .u32) w A0 l0.length l0) (hc0 : l0.length ≤ c0) (hr1 : Kd.C (Kd.int .u32) w A1 l1.length l1) (hc1 : l1.length ≤ c1) (h : tinderref03_Same.f k l0 l1 = some r) :
    Calls Tryd.prog 28 #[.slice A0 l0.length c0, .slice A1 l1.length c1] w fun e w' => e = .returned (.bool r) ∧ Drawn0 w w' := by
  have HR0 := Aside0.mk hr0
  have HC0 := Aside0.mk hc0
  clear hr0 hc0
  have HR1 := Aside0.mk hr1
  have HC1 := Aside0.mk hc1
  clear hr1 hc1
  have H : (if (l0.length : Int) = (l1.length : Int) then (tinderref03_Same.l0 k l0 l1 0) else (some false)) = some r := h
  clear h
  by_cases c3 : (l0.length : Int) = (l1.length : Int)
  · rw [if_pos c3] at H
    have c3b0 : ((l0.length : Int) == (l1.length : Int)) = true := beq_iff_eq.mpr c3
    have c3b1 : ((l0.length : Int) != (l1.length : Int)) = false := bne_eq_false_iff_eq.mpr c3
    have c3b2 : (l0.length == l1.length) = true := by first | simpa using c3 | (simp at c3 ⊢; omega)
    clear c3
    have H' := Aside0.mk H
    clear H
    go_enter Tryd.func28, Tryd.ntmps28
    go_wp2
    repeat (go_quiet (fail); try go_wp2)
    go_loopg [5] k (fun kq v5 w' => ∃ (x5_1 : Int), v5 = .int .i64 x5_1 ∧ Aside0 (tinderref03_Same.l0 kq l0 l1 x5_1 = some r) ∧ Aside0 (kq ≤ k) ∧ Drawn0 w w')
    case atStart => exact ⟨(0), (by first | rfl | (simp; done) | (simp [*]; done)), H', ⟨Nat.le_refl _⟩, by repeat (first | exact Drawn0.refl _ | apply Drawn0.step)⟩
    case round =>
      clear H'
      try clear c1
      try clear c2
      try clear p2
      try clear c3
      try clear c3b0
      try clear c3b1
      try clear c3b2
      obtain ⟨x5_1, rfl, HA, HK1, ⟨m1, rfl⟩⟩ := hrel
      cases gk with
      | zero => exact absurd HA.out (by simp [tinderref03_Same.l0])
      | succ k1 =>
        have H := HA.out
        clear HA
        simp only [tinderref03_Same.l0] at H
        by_cases c4 : x5_1 < (l0.length : Int)
        · rw [if_pos c4] at H
          have c4b0 : decide (x5_1 < (l0.length : Int)) = true := decide_eq_true c4
          clear c4
          by_cases c5 : 0 ≤ x5_1
          · rw [if_pos c5] at H
            have c5b0 : decide (0 ≤ x5_1) = true := decide_eq_true c5
            clear c5
            by_cases c6 : x5_1 < (l1.length : Int)
            · rw [if_pos c6] at H
              have c6b0 : decide (x5_1 < (l1.length : Int)) = true := decide_eq_true c6
              clear c6
              by_cases c7 : (rd l0 x5_1) = (rd l1 x5_1)
              · rw [if_pos c7] at H
                have c7b0 : ((rd l0 x5_1) == (rd l1 x5_1)) = true := beq_iff_eq.mpr c7
                have c7b1 : ((rd l0 x5_1) != (rd l1 x5_1)) = false := bne_eq_false_iff_eq.mpr c7
                clear c7
                have H' := Aside0.mk H
                clear H
                have p29001 : 0 ≤ (x5_1 : Int) := of_decide_eq_true (by first | (with_reducible assumption) | assumption)
                have q29001 : x5_1 < (l0.length : Int) := of_decide_eq_true (by first | (with_reducible assumption) | assumption)
                obtain ⟨ad29001, e29001, hx29001_0⟩ := Kd.at_int HR0.out x5_1 p29001 q29001
                cases e29001
                replace p29001 := eq_true p29001
                replace q29001 := eq_true q29001
                have p29002 : 0 ≤ (x5_1 : Int) := of_decide_eq_true (by first | (with_reducible assumption) | assumption)
                have q29002 : x5_1 < (l1.length : Int) := of_decide_eq_true (by first | (with_reducible assumption) | assumption)
                obtain ⟨ad29002, e29002, hx29002_0⟩ := Kd.at_int HR1.out x5_1 p29002 q29002
                cases e29002
                replace p29002 := eq_true p29002
                replace q29002 := eq_true q29002
                go_wp2
                repeat (go_quiet (fail); try go_wp2)
                go_roundg k1
                case measure => have := HK1.out; omega
                case rel => exact ⟨(wrap64 (x5_1 + 1)), (by first | rfl | (simp; done) | (simp [*]; done)), H', ⟨by have := HK1.out; omega⟩, by repeat (first | exact Drawn0.refl _ | apply Drawn0.step)⟩
              · rw [if_neg c7] at H
                have c7b0 : ((rd l0 x5_1) == (rd l1 x5_1)) = false := beq_eq_false_iff_ne.mpr c7
                have c7b1 : ((rd l0 x5_1) != (rd l1 x5_1)) = true := bne_iff_ne.mpr c7
                obtain rfl := Option.some.inj H
                have p29001 : 0 ≤ (x5_1 : Int) := of_decide_eq_true (by first | (with_reducible assumption) | assumption)
                have q29001 : x5_1 < (l0.length : Int) := of_decide_eq_true (by first | (with_reducible assumption) | assumption)
                obtain ⟨ad29001, e29001, hx29001_0⟩ := Kd.at_int HR0.out x5_1 p29001 q29001
                cases e29001
                replace p29001 := eq_true p29001
                replace q29001 := eq_true q29001
                have p29002 : 0 ≤ (x5_1 : Int) := of_decide_eq_true (by first | (with_reducible assumption) | assumption)
                have q29002 : x5_1 < (l1.length : Int) := of_decide_eq_true (by first | (with_reducible assumption) | assumption)
                obtain ⟨ad29002, e29002, hx29002_0⟩ := Kd.at_int HR1.out x5_1 p29002 q29002
                cases e29002
                replace p29002 := eq_true p29002
                replace q29002 := eq_true q29002
                go_wp2
                repeat (go_quiet (fail); try go_wp2)
                go_ret
                exact ⟨by first | rfl | (simp; done) | (simp [*]; done), by repeat (first | exact Drawn0.refl _ | apply Drawn0.step)⟩
            · rw [if_neg c6] at H
              exact absurd H (by simp)
          · rw [if_neg c5] at H
            exact absurd H (by simp)
        · rw [if_neg c4] at H
          have c4b0 : decide (x5_1 < (l0.length : Int)) = false := decide_eq_false c4
          clear c4
          obtain rfl := Option.some.inj H
          go_wp2
          repeat (go_quiet (fail); try go_wp2)
          go_ret
          exact ⟨by first | rfl | (simp; done) | (simp [*]; done), by repeat (first | exact Drawn0.refl _ | apply Drawn0.step)⟩
  · rw [if_neg c3] at H
    have c3b0 : ((l0.length : Int) == (l1.length : Int)) = false := beq_eq_false_iff_ne.mpr c3
    have c3b1 : ((l0.length : Int) != (l1.length : Int)) = true := bne_iff_ne.mpr c3
    have c3b2 : (l0.length == l1.length) = false := by first | simpa using c3 | (simp at c3 ⊢; omega)
    obtain rfl := Option.some.inj H
    go_enter Tryd.func28, Tryd.ntmps28
    go_wp2
    repeat (go_quiet (fail); try go_wp2)
    go_ret
    exact ⟨by first | rfl | (simp; done) | (simp [*]; done), by repeat (first | exact Drawn0.refl _ | apply Drawn0.step)⟩

end Go.Proofs.YtlhnaplmphdhlaaDoor.Q
end
