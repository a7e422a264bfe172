/- Contracts of Go functions and plain facts, of several texts, one behind the other; no condition. -/
import Derived.Test.YtnalcjgefbelnaaDoorMTreeGoes3
import Derived.Test.YtnalcjgefbelnaaDoorMTreeGoes2
section
set_option linter.unusedSimpArgs false
set_option linter.unusedVariables false
namespace Go.Proofs.YtnalcjgefbelnaaDoor.Q
open Go.RowKit Go.Shelf Go.Proofs.YtnalcjgefbelnaaDoorW.PrintWords Go.Proofs.YtnalcjgefbelnaaDoorW.PrintLast Go.Proofs.YtnalcjgefbelnaaDoorW.PrintMore
attribute [local go_sem] max2_int min2_int max_two min_two max_three min_three max_four min_four
def okP (x : S49) : Bool := namedF x.f0 && decide (x.f1.length ≤ 4) && !decide (0 ≤ Lib.indexByte x.f2.data.toList 47)
def stepB (x : S49) : List UInt8 := (47 :: x.f0.data.toList) ++ (if 0 < x.f1.length then 64 :: unitsL x.f1 else []) ++ (if x.f2.size = 0 then [] else 58 :: x.f2.data.toList)
def pathL (l : List S49) : List UInt8 := (l.map stepB).flatten
def showP (l : List S49) : ByteArray × Int := if l.length = 0 then (⟨#[47]⟩, 0) else if l.all okP = true then (if 256 < (pathL l).length then (⟨#[]⟩, 3) else (⟨(pathL l).toArray⟩, 0)) else (⟨#[]⟩, 1)
theorem pathL_snoc (l : List S49) (x : S49) : pathL (l ++ [x]) = pathL l ++ stepB x := by
  unfold pathL
  rw [List.map_append, List.flatten_append]
  simp
theorem pathL_take (l : List S49) : ∀ i, (pathL (l.take i)).length ≤ (pathL l).length := by
  intro i
  have h : pathL l = pathL (l.take i) ++ pathL (l.drop i) := by
    unfold pathL
    rw [← List.flatten_append, ← List.map_append, List.take_append_drop]
  rw [h, List.length_append]
  omega
theorem cells_app (a b : List UInt8) : Lib.byteCells (a ++ b) = Lib.byteCells a ++ Lib.byteCells b := by unfold Lib.byteCells; rw [List.map_append]
theorem units_ge : ∀ l : List Int, l.length ≤ (unitsL l).length + 1
  | [] => by simp
  | [v] => by simp
  | v :: u :: l => by
    have ih := units_ge (u :: l)
    unfold unitsL at ih ⊢
    rw [List.map_cons, List.map_cons, Lib.join_cons]
    rw [List.map_cons, Lib.join_cons] at ih
    unfold Lib.joinTail at ih ⊢
    rw [List.map_cons, List.flatten_cons]
    simp only [List.length_append, List.length_cons, List.length_nil] at ih ⊢
    omega
theorem writeL (b : Nat) (P : List UInt8) (s : ByteArray) (W : World) (h : Lib.IsBuilder 94 5 b b (Lib.byteCells P) W) (hl : P.length + s.size ≤ 140737488355328) (hB : b ≤ W.heap.size) :
    Calls Tryd.prog 71 #[.pointer (some ⟨b, 0, none⟩), .string s] W fun e w' => e = .returned (.tuple #[.int .i64 s.size, .nilIface]) ∧ Lib.IsBuilder 94 5 b b (Lib.byteCells (P ++ s.data.toList)) w' ∧ Below b W w' ∧ KeepT b W w' := by
  refine (write_calls b b (Lib.byteCells P) s W h (by rw [Lib.byteCells_length]; exact hl) hB).mono ?_
  rintro e w' ⟨rfl, h1, h2, h3⟩
  refine ⟨rfl, .inr ?_, h2, h3⟩
  rw [cells_app]
  exact h1
theorem rd_T49_get (l : List S49) (i : Int) (h0 : 0 ≤ i) (h : i < l.length) : rd_T49 l i = l[i.toNat]'(by omega) := by
  unfold rd_T49
  rw [List.getD_eq_getElem?_getD, List.getElem?_eq_getElem (by omega)]
  rfl
set_option maxRecDepth 100000 in
set_option maxHeartbeats 8000000 in
theorem show_calls (A : Option Addr) (c : Nat) (l : List S49) (w : World) (ht : QB.Tabs w) (hC : Kd.C k49 w A l.length l) (hc : l.length ≤ c) (hU : ∀ x ∈ l, U32L x.f1) (hl : l.length ≤ 1000000000) (hP : (pathL l).length ≤ 1000000000) :
    Calls Tryd.prog 59 #[.slice A l.length c] w fun e w' => e = .returned (.tuple #[.string (showP l).1, .int .i64 (showP l).2]) ∧ Below w.heap.size w w' := by
  obtain ⟨R, hR⟩ : ∃ R, R = showP l := ⟨_, rfl⟩
  rw [← hR]
  by_cases h0 : l.length = 0
  · have HR := Aside0.mk (show R = (⟨#[47]⟩, 0) by rw [hR]; unfold showP; rw [if_pos h0])
    have d0 : ((l.length : Int) == 0) = true := by rw [h0]; rfl
    clear hR hC hc hU hl hP h0 ht
    go_enter Tryd.func59, Tryd.ntmps59
    go_wp2
    go_ret2
    exact ⟨by rw [HR.out]; rfl, Below.refl _ _⟩
  have d0 : ((l.length : Int) == 0) = false := beq_eq_false_iff_ne.2 (by omega)
  have HR := Aside0.mk (show R = if l.all okP = true then (if 256 < (pathL l).length then (⟨#[]⟩, 3) else (⟨(pathL l).toArray⟩, 0)) else (⟨#[]⟩, 1) by rw [hR]; unfold showP; rw [if_neg h0])
  have HC := Aside0.mk hC
  have HT := Aside0.mk ht
  have HU := Aside0.mk hU
  have HL := Aside0.mk hl
  have HP := Aside0.mk hP
  clear hR hC hc hU hl hP h0 ht
  go_enter Tryd.func59, Tryd.ntmps59
  go_wp2
  go_loopg [12] l.length (fun kq v12 w' => ∃ i : Int, v12 = .int .i64 i ∧ Aside0 (0 ≤ i ∧ i + kq = l.length) ∧ Aside0 (∀ x ∈ l.take i.toNat, okP x = true) ∧ Aside0 (Lib.IsBuilder 94 5 w.heap.size w.heap.size (Lib.byteCells (pathL (l.take i.toNat))) w') ∧ Aside0 (Below w.heap.size w w'))
  case atStart =>
    refine ⟨0, rfl, ⟨by omega, by omega⟩, ⟨fun x hx => by simp at hx⟩, ⟨.inl ⟨Nat.le_refl _, .slice none 0 0, heap_alloc_new w _, World.ownsRow_nil _ _ _ _, by simp [Value.ownBlock]⟩⟩, ⟨below_alloc (Below.refl _ _) _⟩⟩
  case round =>
    obtain ⟨i, rfl, HI, HO, HW, HB⟩ := hrel
    cases gk with
    | zero =>
      have hi := HI.out
      have hil : i = (l.length : Int) := by omega
      have ho := HO.out
      have hw := HW.out
      rw [hil, Int.toNat_natCast, List.take_length] at ho hw
      have hR := HR.out
      rw [if_pos (List.all_eq_true.2 ho)] at hR
      have hlt : decide (i < (l.length : Int)) = false := decide_eq_false (by omega)
      have HLN := Aside0.mk (Tryd.Builder_Len w.heap.size w.heap.size _ wr hw)
      rw [Lib.byteCells_length] at HLN
      have HST := Aside0.mk (Tryd.Builder_String_any w.heap.size w.heap.size (pathL l) wr hw HB.out.size)
      by_cases hb : 256 < (pathL l).length
      · rw [if_pos hb] at hR
        have d1 : decide (256 < ((pathL l).length : Int)) = true := decide_eq_true (by omega)
        have HE := Aside0.mk hR
        generalize (pathL l).length = n at HLN d1
        clear hi hil ho hw hR HST HI HO HW HC HT HU HP hb
        go_wp2_with (go_at_call 73; (with_reducible refine HLN.out.mono ?_); rintro e w7 ⟨rfl, rfl⟩)
        go_ret2
        exact ⟨by rw [HE.out]; rfl, HB.out⟩
      · rw [if_neg hb] at hR
        have d1 : decide (256 < ((pathL l).length : Int)) = false := decide_eq_false (by omega)
        have HE := Aside0.mk hR
        generalize (pathL l).length = n at HLN d1
        generalize (⟨(pathL l).toArray⟩ : ByteArray) = S at HST HE
        clear hi hil ho hw hR HI HO HW HC HT HU HP hb
        go_wp2_with (first
          | (go_at_call 73; (with_reducible refine HLN.out.mono ?_); rintro e w7 ⟨rfl, rfl⟩)
          | (go_at_call 74; (with_reducible refine HST.out.mono ?_); rintro e w8 ⟨rfl, hb⟩; have HB2 := Aside0.mk (HB.out.trans hb); clear hb))
        go_ret2
        exact ⟨by rw [HE.out]; rfl, HB2.out⟩
    | succ k1 =>
      have hi := HI.out
      have hlt : decide (i < (l.length : Int)) = true := decide_eq_true (by omega)
      have hlen := HL.out
      have hw1 : IntKind.i64.wrap (i + 1) = i + 1 := (i64_w _).trans (by unfold wrap64; omega)
      have hw2 : wrap64 (i + 1) = i + 1 := by unfold wrap64; omega
      have p1 : (0 ≤ i) = True := eq_true (by omega)
      have p2 : (i < (l.length : Int)) = True := eq_true (by omega)
      obtain ⟨ad, A1, c1, rfl, e0, e1, e2, hc1, hC1⟩ := at_T49 HC.out i (by omega) (by omega)
      have hxm : rd_T49 l i ∈ l := by rw [rd_T49_get l i (by omega) (by omega)]; exact List.getElem_mem _
      have htk : l.take (i + 1).toNat = l.take i.toNat ++ [rd_T49 l i] := by
        rw [show (i + 1).toNat = i.toNat + 1 by omega, take_succ' l i.toNat (by omega), rd_T49_get l i (by omega) (by omega)]
      have hux := HU.out _ hxm
      have hpl := pathL_take l (i + 1).toNat
      rw [htk, pathL_snoc, List.length_append] at hpl
      obtain ⟨x, hx⟩ : ∃ x, x = rd_T49 l i := ⟨_, rfl⟩
      rw [← hx] at e0 e1 e2 hc1 hC1 hxm htk hux hpl
      have hpP := HP.out
      have f0 : wr.cell? (ad.add (i.toNat * 3)) = some (.string x.f0) := by rw [HB.out.cell (World.block_lt_of_cell? w _ e0)]; exact e0
      have f1 : wr.cell? ⟨(ad.add (i.toNat * 3)).block, (ad.add (i.toNat * 3)).off + 1, none⟩ = some (.slice A1 x.f1.length c1) := by rw [HB.out.cell (World.block_lt_of_cell? w _ e1)]; exact e1
      have f2 : wr.cell? ⟨(ad.add (i.toNat * 3)).block, (ad.add (i.toNat * 3)).off + 2, none⟩ = some (.string x.f2) := by rw [HB.out.cell (World.block_lt_of_cell? w _ e2)]; exact e2
      have HX := Aside0.mk (show Kd.C (Kd.int .u32) w A1 x.f1.length x.f1 ∧ x.f1.length ≤ c1 ∧ U32L x.f1 ∧ x.f1.length ≤ 1000000000 from ⟨hC1, hc1, hux, by
        have h2 : x.f1.length ≤ (stepB x).length ∨ x.f1.length = 0 := by
          by_cases h : 0 < x.f1.length
          · left
            unfold stepB
            rw [if_pos h]
            simp only [List.length_append, List.length_cons]
            have h3 : x.f1.length ≤ (unitsL x.f1).length + 1 := units_ge x.f1
            omega
          · right; omega
        omega⟩)
      have HTK := Aside0.mk htk
      have HPL := Aside0.mk hpl
      have HXM := Aside0.mk hxm
      clear e0 e1 e2 hc1 hC1 hxm htk hux hx hpl
      go_upto_region 7 with (fail)
      obtain ⟨Y, hY⟩ : ∃ Y, Y = wr.alloc (.cells #[.string x.f0, .slice A1 x.f1.length c1, .string x.f2] 49) := ⟨_, rfl⟩
      obtain ⟨g6, hg6⟩ : ∃ g6, g6 = wr.heap.size := ⟨_, rfl⟩
      have K6 := Aside0.mk (show Y.heap[g6]? = some (.cells #[.string x.f0, .slice A1 x.f1.length c1, .string x.f2] 49 (0, 0)) by rw [hY, hg6]; exact heap_alloc_new wr _)
      have HBY := Aside0.mk (show Below w.heap.size w Y by rw [hY]; exact below_alloc HB.out _)
      have HWY := Aside0.mk (show Lib.IsBuilder 94 5 w.heap.size w.heap.size (Lib.byteCells (pathL (l.take i.toNat))) Y by rw [hY]; exact IsBuilder_below HW.out (below_alloc (Below.refl _ _) _))
      have HG := Aside0.mk (show g6 ≠ w.heap.size by
        have := HW.out
        have hlt2 : w.heap.size < wr.heap.size := by
          rcases this with h | h <;> exact h.lt
        omega)
      rw [← hY, ← hg6]
      clear hY hg6 f0 f1 f2 HB HW
      have k0 := (blk_cell K6.out 0).trans rfl
      have k1' := (blk_cell K6.out 1).trans rfl
      have k2' := (blk_cell K6.out 2).trans rfl
      have HN := Aside0.mk (show prop_Named.f 100 x.f0 = some (namedF x.f0) from named_eq 100 (by omega) x.f0)
      have HCT := Aside0.mk (fun W : World => Tryd.strings_Contains_one x.f2 47 W)
      by_cases hn : namedF x.f0 = true
      · rw [hn] at HN
        by_cases hu : 4 < x.f1.length
        · have du : decide (4 < (x.f1.length : Int)) = true := decide_eq_true (by omega)
          have HE := Aside0.mk (show R = (⟨#[]⟩, 1) by
            have hR := HR.out
            rw [if_neg (fun h => by
              have := List.all_eq_true.1 h x HXM.out
              rw [okP, decide_eq_false (show ¬ x.f1.length ≤ 4 by omega)] at this
              simp at this)] at hR
            exact hR)
          clear hi HX HTK HPL HWY HC HT HU HP hpP hlen
          go_wp2_with (first
            | (go_at_call 41; (with_reducible refine (prop_Named.calls 100 x.f0 _ _ HN.out).mono ?_); rintro e w1 ⟨rfl, hd⟩; have HBN := Aside0.mk (below_step HBY.out hd); have K6N := Aside0.mk (blk_below K6.out hd); have k0n := (blk_cell K6N.out 0).trans rfl; have k1n := (blk_cell K6N.out 1).trans rfl; have k2n := (blk_cell K6N.out 2).trans rfl)
            | (go_at_call 70; (with_reducible refine (HCT.out _).mono ?_); rintro e w1 ⟨rfl, rfl⟩))
          go_ret2
          exact ⟨by rw [HE.out]; rfl, HBN.out⟩
        · have du : decide (4 < (x.f1.length : Int)) = false := decide_eq_false (by omega)
          by_cases hs : 0 ≤ Lib.indexByte x.f2.data.toList 47
          · rw [decide_eq_true hs] at HCT
            have HE := Aside0.mk (show R = (⟨#[]⟩, 1) by
              have hR := HR.out
              rw [if_neg (fun h => by
                have := List.all_eq_true.1 h x HXM.out
                rw [okP, decide_eq_true hs] at this
                simp at this)] at hR
              exact hR)
            clear hi HX HTK HPL HWY HC HT HU HP hpP hlen
            go_wp2_with (first
              | (go_at_call 41; (with_reducible refine (prop_Named.calls 100 x.f0 _ _ HN.out).mono ?_); rintro e w1 ⟨rfl, hd⟩; have HBN := Aside0.mk (below_step HBY.out hd); have K6N := Aside0.mk (blk_below K6.out hd); have k0n := (blk_cell K6N.out 0).trans rfl; have k1n := (blk_cell K6N.out 1).trans rfl; have k2n := (blk_cell K6N.out 2).trans rfl)
              | (go_at_call 70; (with_reducible refine (HCT.out _).mono ?_); rintro e w1 ⟨rfl, rfl⟩))
            go_ret2
            exact ⟨by rw [HE.out]; rfl, HBN.out⟩
          · rw [decide_eq_false hs] at HCT
            have HOK := Aside0.mk (show okP x = true by unfold okP; rw [hn, decide_eq_false hs, decide_eq_true (show x.f1.length ≤ 4 by omega)]; rfl)
            have hstep : (stepB x).length = 1 + x.f0.size + (if 0 < x.f1.length then 1 + (unitsL x.f1).length else 0) + (if x.f2.size = 0 then 0 else 1 + x.f2.size) := by
              unfold stepB
              rw [List.length_append, List.length_append, List.length_cons, data_length]
              have a1 : (if 0 < x.f1.length then 64 :: unitsL x.f1 else []).length = if 0 < x.f1.length then 1 + (unitsL x.f1).length else 0 := by
                split
                · rw [List.length_cons]; omega
                · rfl
              have a2 : (if x.f2.size = 0 then [] else 58 :: x.f2.data.toList).length = if x.f2.size = 0 then 0 else 1 + x.f2.size := by
                split
                · rfl
                · rw [List.length_cons, data_length]; omega
              rw [a1, a2]
              omega
            have hpl := HPL.out
            have s1z : ((⟨#[47]⟩ : ByteArray) ++ x.f0).size = 1 + x.f0.size := by rw [ByteArray.size_append]; rfl
            have W1 := Aside0.mk (fun (W : World) (h : Lib.IsBuilder 94 5 w.heap.size w.heap.size (Lib.byteCells (pathL (l.take i.toNat))) W) (hB : w.heap.size ≤ W.heap.size) => writeL w.heap.size (pathL (l.take i.toNat)) ((⟨#[47]⟩ : ByteArray) ++ x.f0) W h (by omega) hB)
            have q1 : (9223372036854775807 < 1 + (x.f0.size : Int)) = False := eq_false (by omega)
            have q1n : (9223372036854775807 < 1 + x.f0.size) = False := eq_false (by omega)
            have q1m : (9223372036854775807 < (⟨#[47]⟩ : ByteArray).size + x.f0.size) = False := eq_false (by rw [show (⟨#[47]⟩ : ByteArray).size = 1 from rfl]; omega)
            have q1d : decide (9223372036854775807 < 1 + x.f0.size) = false := decide_eq_false (by omega)
            obtain ⟨P1, hP1⟩ : ∃ P1, P1 = pathL (l.take i.toNat) ++ ((⟨#[47]⟩ : ByteArray) ++ x.f0).data.toList := ⟨_, rfl⟩
            have hP1l : P1.length = (pathL (l.take i.toNat)).length + (1 + x.f0.size) := by rw [hP1, List.length_append, data_length, s1z]
            rw [← hP1] at W1
            by_cases hun : 0 < x.f1.length
            · have dun : decide ((0 : Int) < (x.f1.length : Int)) = true := decide_eq_true (by omega)
              have dunN : decide (0 < x.f1.length) = true := decide_eq_true hun
              have HSU := Aside0.mk (fun (W : World) (hT : QB.Tabs W) (hCW : Kd.C (Kd.int .u32) W A1 x.f1.length x.f1) => prop_ShowUnit.calls 1000000001 A1 c1 x.f1 (unitsB x.f1) W hT hCW HX.out.2.1 (units_eq 1000000001 x.f1 HX.out.2.2.1 HX.out.2.2.2 (by have := HX.out.2.2.2; omega)))
              rw [if_pos hun] at hstep
              have s2z : ((⟨#[64]⟩ : ByteArray) ++ unitsB x.f1).size = 1 + (unitsL x.f1).length := by rw [ByteArray.size_append]; simp [unitsB, ByteArray.size]
              have hub : (unitsB x.f1).size = (unitsL x.f1).length := by simp [unitsB, ByteArray.size]
              have q2 : (9223372036854775807 < 1 + ((unitsB x.f1).size : Int)) = False := eq_false (by omega)
              have q2n : (9223372036854775807 < 1 + (unitsB x.f1).size) = False := eq_false (by omega)
              have q2m : (9223372036854775807 < (⟨#[64]⟩ : ByteArray).size + (unitsB x.f1).size) = False := eq_false (by rw [show (⟨#[64]⟩ : ByteArray).size = 1 from rfl]; omega)
              have q2d : decide (9223372036854775807 < 1 + (unitsB x.f1).size) = false := decide_eq_false (by omega)
              have W2 := Aside0.mk (fun (W : World) (h : Lib.IsBuilder 94 5 w.heap.size w.heap.size (Lib.byteCells P1) W) (hB : w.heap.size ≤ W.heap.size) => writeL w.heap.size P1 ((⟨#[64]⟩ : ByteArray) ++ unitsB x.f1) W h (by omega) hB)
              obtain ⟨P2, hP2⟩ : ∃ P2, P2 = P1 ++ ((⟨#[64]⟩ : ByteArray) ++ unitsB x.f1).data.toList := ⟨_, rfl⟩
              have hP2l : P2.length = P1.length + (1 + (unitsL x.f1).length) := by rw [hP2, List.length_append, data_length, s2z]
              rw [← hP2] at W2
              by_cases har : x.f2.size = 0
              · have da : x.f2.toList.isEmpty = true := List.isEmpty_iff.2 ((empty_iff x.f2).2 har)
                have HEQ := Aside0.mk (show P2 = pathL (l.take (i + 1).toNat) by
                  rw [HTK.out, pathL_snoc, hP2, hP1]
                  unfold stepB
                  rw [if_pos hun, if_pos har]
                  simp [unitsB, List.append_assoc])
                clear hi hpP hlen hstep hpl hP1 hP1l s1z har hun hs hP2 hP2l s2z hub
                go_wp2_with (first
                  | (go_at_call 41; (with_reducible refine (prop_Named.calls 100 x.f0 _ _ HN.out).mono ?_); rintro e w1 ⟨rfl, hd⟩; have HBN := Aside0.mk (below_step HBY.out hd); have K6N := Aside0.mk (blk_below K6.out hd); have HWN := Aside0.mk (IsBuilder_below HWY.out hd); have k0n := (blk_cell K6N.out 0).trans rfl; have k1n := (blk_cell K6N.out 1).trans rfl; have k2n := (blk_cell K6N.out 2).trans rfl; clear hd)
                  | (go_at_call 70; (with_reducible refine (HCT.out _).mono ?_); rintro e w1 ⟨rfl, rfl⟩)
                  | (go_at_call 71; (with_reducible refine (W1.out _ HWN.out HBN.out.size).mono ?_); rintro e w2 ⟨rfl, hbw, hbb, hbk⟩; have HBp := Aside0.mk (HBN.out.trans hbb); have K6p := Aside0.mk (hbk g6 _ 49 _ HG.out (by decide) K6N.out); have HWp := Aside0.mk hbw; have k0p := (blk_cell K6p.out 0).trans rfl; have k1p := (blk_cell K6p.out 1).trans rfl; have k2p := (blk_cell K6p.out 2).trans rfl; clear hbw hbb hbk)
                  | (go_at_call 72; (with_reducible refine (HSU.out _ (HT.out.below HBp.out) (Kd.C_below HX.out.1 HBp.out)).mono ?_); rintro e w9 ⟨rfl, hd⟩; have HBs := Aside0.mk (below_step HBp.out hd); have K6s := Aside0.mk (blk_below K6p.out hd); have HWs := Aside0.mk (IsBuilder_below HWp.out hd); have k0s := (blk_cell K6s.out 0).trans rfl; have k1s := (blk_cell K6s.out 1).trans rfl; have k2s := (blk_cell K6s.out 2).trans rfl; clear hd)
                  | (go_at_call 71; (with_reducible refine (W2.out _ HWs.out HBs.out.size).mono ?_); rintro e w3 ⟨rfl, hbw, hbb, hbk⟩; have HBu := Aside0.mk (HBs.out.trans hbb); have K6u := Aside0.mk (hbk g6 _ 49 _ HG.out (by decide) K6s.out); have HWu := Aside0.mk hbw; have k0u := (blk_cell K6u.out 0).trans rfl; have k1u := (blk_cell K6u.out 1).trans rfl; have k2u := (blk_cell K6u.out 2).trans rfl; clear hbw hbb hbk))
                go_roundg k1
                case measure => omega
                case rel =>
                  have hi := HI.out
                  refine ⟨i + 1, rfl, ⟨by omega, by omega⟩, ⟨fun y hy => ?_⟩, ⟨?_⟩, HBu⟩
                  · rw [HTK.out] at hy
                    rcases List.mem_append.1 hy with hy | hy
                    · exact HO.out y hy
                    · rw [List.mem_singleton.1 hy]; exact HOK.out
                  · rw [← HEQ.out]
                    exact HWu.out
              · rw [if_neg har] at hstep
                have s3z : ((⟨#[58]⟩ : ByteArray) ++ x.f2).size = 1 + x.f2.size := by rw [ByteArray.size_append]; rfl
                have q3 : (9223372036854775807 < 1 + (x.f2.size : Int)) = False := eq_false (by omega)
                have q3n : (9223372036854775807 < 1 + x.f2.size) = False := eq_false (by omega)
                have q3m : (9223372036854775807 < (⟨#[58]⟩ : ByteArray).size + x.f2.size) = False := eq_false (by rw [show (⟨#[58]⟩ : ByteArray).size = 1 from rfl]; omega)
                have q3d : decide (9223372036854775807 < 1 + x.f2.size) = false := decide_eq_false (by omega)
                have da : x.f2.toList.isEmpty = false := List.isEmpty_eq_false_iff.2 (fun h => har ((empty_iff x.f2).1 h))
                have W3 := Aside0.mk (fun (W : World) (h : Lib.IsBuilder 94 5 w.heap.size w.heap.size (Lib.byteCells P2) W) (hB : w.heap.size ≤ W.heap.size) => writeL w.heap.size P2 ((⟨#[58]⟩ : ByteArray) ++ x.f2) W h (by omega) hB)
                obtain ⟨P3, hP3⟩ : ∃ P3, P3 = P2 ++ ((⟨#[58]⟩ : ByteArray) ++ x.f2).data.toList := ⟨_, rfl⟩
                rw [← hP3] at W3
                have HEQ := Aside0.mk (show P3 = pathL (l.take (i + 1).toNat) by
                  rw [HTK.out, pathL_snoc, hP3, hP2, hP1]
                  unfold stepB
                  rw [if_pos hun, if_neg har]
                  simp [unitsB, List.append_assoc])
                clear hi hpP hlen hstep hpl hP1 hP1l s1z har hun hs hP2 hP2l s2z hub hP3 s3z
                go_wp2_with (first
                  | (go_at_call 41; (with_reducible refine (prop_Named.calls 100 x.f0 _ _ HN.out).mono ?_); rintro e w1 ⟨rfl, hd⟩; have HBN := Aside0.mk (below_step HBY.out hd); have K6N := Aside0.mk (blk_below K6.out hd); have HWN := Aside0.mk (IsBuilder_below HWY.out hd); have k0n := (blk_cell K6N.out 0).trans rfl; have k1n := (blk_cell K6N.out 1).trans rfl; have k2n := (blk_cell K6N.out 2).trans rfl; clear hd)
                  | (go_at_call 70; (with_reducible refine (HCT.out _).mono ?_); rintro e w1 ⟨rfl, rfl⟩)
                  | (go_at_call 71; (with_reducible refine (W1.out _ HWN.out HBN.out.size).mono ?_); rintro e w2 ⟨rfl, hbw, hbb, hbk⟩; have HBp := Aside0.mk (HBN.out.trans hbb); have K6p := Aside0.mk (hbk g6 _ 49 _ HG.out (by decide) K6N.out); have HWp := Aside0.mk hbw; have k0p := (blk_cell K6p.out 0).trans rfl; have k1p := (blk_cell K6p.out 1).trans rfl; have k2p := (blk_cell K6p.out 2).trans rfl; clear hbw hbb hbk)
                  | (go_at_call 72; (with_reducible refine (HSU.out _ (HT.out.below HBp.out) (Kd.C_below HX.out.1 HBp.out)).mono ?_); rintro e w9 ⟨rfl, hd⟩; have HBs := Aside0.mk (below_step HBp.out hd); have K6s := Aside0.mk (blk_below K6p.out hd); have HWs := Aside0.mk (IsBuilder_below HWp.out hd); have k0s := (blk_cell K6s.out 0).trans rfl; have k1s := (blk_cell K6s.out 1).trans rfl; have k2s := (blk_cell K6s.out 2).trans rfl; clear hd)
                  | (go_at_call 71; (with_reducible refine (W2.out _ HWs.out HBs.out.size).mono ?_); rintro e w3 ⟨rfl, hbw, hbb, hbk⟩; have HBu := Aside0.mk (HBs.out.trans hbb); have K6u := Aside0.mk (hbk g6 _ 49 _ HG.out (by decide) K6s.out); have HWu := Aside0.mk hbw; have k0u := (blk_cell K6u.out 0).trans rfl; have k1u := (blk_cell K6u.out 1).trans rfl; have k2u := (blk_cell K6u.out 2).trans rfl; clear hbw hbb hbk)
                  | (go_at_call 71; (with_reducible refine (W3.out _ HWu.out HBu.out.size).mono ?_); rintro e w4 ⟨rfl, hbw, hbb, hbk⟩; have HBa := Aside0.mk (HBu.out.trans hbb); have K6a := Aside0.mk (hbk g6 _ 49 _ HG.out (by decide) K6u.out); have HWa := Aside0.mk hbw; have k0a := (blk_cell K6a.out 0).trans rfl; have k1a := (blk_cell K6a.out 1).trans rfl; have k2a := (blk_cell K6a.out 2).trans rfl; clear hbw hbb hbk))
                go_roundg k1
                case measure => omega
                case rel =>
                  have hi := HI.out
                  refine ⟨i + 1, rfl, ⟨by omega, by omega⟩, ⟨fun y hy => ?_⟩, ⟨?_⟩, HBa⟩
                  · rw [HTK.out] at hy
                    rcases List.mem_append.1 hy with hy | hy
                    · exact HO.out y hy
                    · rw [List.mem_singleton.1 hy]; exact HOK.out
                  · rw [← HEQ.out]
                    exact HWa.out
            · have dun : decide ((0 : Int) < (x.f1.length : Int)) = false := decide_eq_false (by omega)
              have dunN : decide (0 < x.f1.length) = false := decide_eq_false hun
              by_cases har : x.f2.size = 0
              · rw [if_neg hun, if_pos har] at hstep
                have da : x.f2.toList.isEmpty = true := List.isEmpty_iff.2 ((empty_iff x.f2).2 har)
                have HEQ := Aside0.mk (show P1 = pathL (l.take (i + 1).toNat) by
                  rw [HTK.out, pathL_snoc, hP1]
                  unfold stepB
                  rw [if_neg hun, if_pos har]
                  simp [unitsB, List.append_assoc])
                clear hi hpP hlen hstep hpl hP1 hP1l s1z har hun hs
                go_wp2_with (first
                  | (go_at_call 41; (with_reducible refine (prop_Named.calls 100 x.f0 _ _ HN.out).mono ?_); rintro e w1 ⟨rfl, hd⟩; have HBN := Aside0.mk (below_step HBY.out hd); have K6N := Aside0.mk (blk_below K6.out hd); have HWN := Aside0.mk (IsBuilder_below HWY.out hd); have k0n := (blk_cell K6N.out 0).trans rfl; have k1n := (blk_cell K6N.out 1).trans rfl; have k2n := (blk_cell K6N.out 2).trans rfl; clear hd)
                  | (go_at_call 70; (with_reducible refine (HCT.out _).mono ?_); rintro e w1 ⟨rfl, rfl⟩)
                  | (go_at_call 71; (with_reducible refine (W1.out _ HWN.out HBN.out.size).mono ?_); rintro e w2 ⟨rfl, hbw, hbb, hbk⟩; have HBp := Aside0.mk (HBN.out.trans hbb); have K6p := Aside0.mk (hbk g6 _ 49 _ HG.out (by decide) K6N.out); have HWp := Aside0.mk hbw; have k0p := (blk_cell K6p.out 0).trans rfl; have k1p := (blk_cell K6p.out 1).trans rfl; have k2p := (blk_cell K6p.out 2).trans rfl; clear hbw hbb hbk))
                go_roundg k1
                case measure => omega
                case rel =>
                  have hi := HI.out
                  refine ⟨i + 1, rfl, ⟨by omega, by omega⟩, ⟨fun y hy => ?_⟩, ⟨?_⟩, HBp⟩
                  · rw [HTK.out] at hy
                    rcases List.mem_append.1 hy with hy | hy
                    · exact HO.out y hy
                    · rw [List.mem_singleton.1 hy]; exact HOK.out
                  · rw [← HEQ.out]
                    exact HWp.out
              · rw [if_neg hun, if_neg har] at hstep
                have s3z : ((⟨#[58]⟩ : ByteArray) ++ x.f2).size = 1 + x.f2.size := by rw [ByteArray.size_append]; rfl
                have q3 : (9223372036854775807 < 1 + (x.f2.size : Int)) = False := eq_false (by omega)
                have q3n : (9223372036854775807 < 1 + x.f2.size) = False := eq_false (by omega)
                have q3m : (9223372036854775807 < (⟨#[58]⟩ : ByteArray).size + x.f2.size) = False := eq_false (by rw [show (⟨#[58]⟩ : ByteArray).size = 1 from rfl]; omega)
                have q3d : decide (9223372036854775807 < 1 + x.f2.size) = false := decide_eq_false (by omega)
                have da : x.f2.toList.isEmpty = false := List.isEmpty_eq_false_iff.2 (fun h => har ((empty_iff x.f2).1 h))
                have W3 := Aside0.mk (fun (W : World) (h : Lib.IsBuilder 94 5 w.heap.size w.heap.size (Lib.byteCells P1) W) (hB : w.heap.size ≤ W.heap.size) => writeL w.heap.size P1 ((⟨#[58]⟩ : ByteArray) ++ x.f2) W h (by omega) hB)
                obtain ⟨P3, hP3⟩ : ∃ P3, P3 = P1 ++ ((⟨#[58]⟩ : ByteArray) ++ x.f2).data.toList := ⟨_, rfl⟩
                rw [← hP3] at W3
                have HEQ := Aside0.mk (show P3 = pathL (l.take (i + 1).toNat) by
                  rw [HTK.out, pathL_snoc, hP3, hP1]
                  unfold stepB
                  rw [if_neg hun, if_neg har]
                  simp [unitsB, List.append_assoc])
                clear hi hpP hlen hstep hpl hP1 hP1l s1z har hun hs hP3 s3z
                go_wp2_with (first
                  | (go_at_call 41; (with_reducible refine (prop_Named.calls 100 x.f0 _ _ HN.out).mono ?_); rintro e w1 ⟨rfl, hd⟩; have HBN := Aside0.mk (below_step HBY.out hd); have K6N := Aside0.mk (blk_below K6.out hd); have HWN := Aside0.mk (IsBuilder_below HWY.out hd); have k0n := (blk_cell K6N.out 0).trans rfl; have k1n := (blk_cell K6N.out 1).trans rfl; have k2n := (blk_cell K6N.out 2).trans rfl; clear hd)
                  | (go_at_call 70; (with_reducible refine (HCT.out _).mono ?_); rintro e w1 ⟨rfl, rfl⟩)
                  | (go_at_call 71; (with_reducible refine (W1.out _ HWN.out HBN.out.size).mono ?_); rintro e w2 ⟨rfl, hbw, hbb, hbk⟩; have HBp := Aside0.mk (HBN.out.trans hbb); have K6p := Aside0.mk (hbk g6 _ 49 _ HG.out (by decide) K6N.out); have HWp := Aside0.mk hbw; have k0p := (blk_cell K6p.out 0).trans rfl; have k1p := (blk_cell K6p.out 1).trans rfl; have k2p := (blk_cell K6p.out 2).trans rfl; clear hbw hbb hbk)
                  | (go_at_call 71; (with_reducible refine (W3.out _ HWp.out HBp.out.size).mono ?_); rintro e w4 ⟨rfl, hbw, hbb, hbk⟩; have HBa := Aside0.mk (HBp.out.trans hbb); have K6a := Aside0.mk (hbk g6 _ 49 _ HG.out (by decide) K6p.out); have HWa := Aside0.mk hbw; have k0a := (blk_cell K6a.out 0).trans rfl; have k1a := (blk_cell K6a.out 1).trans rfl; have k2a := (blk_cell K6a.out 2).trans rfl; clear hbw hbb hbk))
                go_roundg k1
                case measure => omega
                case rel =>
                  have hi := HI.out
                  refine ⟨i + 1, rfl, ⟨by omega, by omega⟩, ⟨fun y hy => ?_⟩, ⟨?_⟩, HBa⟩
                  · rw [HTK.out] at hy
                    rcases List.mem_append.1 hy with hy | hy
                    · exact HO.out y hy
                    · rw [List.mem_singleton.1 hy]; exact HOK.out
                  · rw [← HEQ.out]
                    exact HWa.out
      · have hn2 := Bool.eq_false_iff.2 hn
        rw [hn2] at HN
        have HE := Aside0.mk (show R = (⟨#[]⟩, 1) by
          have hR := HR.out
          rw [if_neg (fun h => by
            have := List.all_eq_true.1 h x HXM.out
            rw [okP, hn2] at this
            simp at this)] at hR
          exact hR)
        clear hi HX HTK HPL HWY HC HT HU HP hpP hlen
        go_wp2_with (first
          | (go_at_call 41; (with_reducible refine (prop_Named.calls 100 x.f0 _ _ HN.out).mono ?_); rintro e w1 ⟨rfl, hd⟩; have HBN := Aside0.mk (below_step HBY.out hd); have K6N := Aside0.mk (blk_below K6.out hd); have k0n := (blk_cell K6N.out 0).trans rfl; have k1n := (blk_cell K6N.out 1).trans rfl; have k2n := (blk_cell K6N.out 2).trans rfl)
          | (go_at_call 70; (with_reducible refine (HCT.out _).mono ?_); rintro e w1 ⟨rfl, rfl⟩))
        go_ret2
        exact ⟨by rw [HE.out]; rfl, HBN.out⟩
end Go.Proofs.YtnalcjgefbelnaaDoor.Q
end
section
set_option linter.unusedSimpArgs false
set_option linter.unusedVariables false
namespace Go.Proofs.YtnalcjgefbelnaaDoor.Q
open Go.RowKit Go.Proofs.YtnalcjgefbelnaaDoorW.PrintWords Go.Proofs.YtnalcjgefbelnaaDoorW.PrintLast Go.Proofs.YtnalcjgefbelnaaDoorW.PrintMore
attribute [local go_sem] max2_int min2_int max_two min_two max_three min_three max_four min_four
theorem event_stepN {P : Program} {ops : Array Oper} {o : Oper} {a : Act} {Q : Exit → Act → World → Prop} {Kc : Act → World → Prop} {N : Option Tmp} {W w1 : World} {v : Value} (hw : Region.wanted o (yielded ops a.tmps) = true) (hN : o.dst = N) (hrun : (execOp a.eval o).run P W = .ok (.value v) w1) (h : Kc (a.put N v) w1) :
    if Region.wanted o (yielded ops a.tmps) = true then Oper.wp P o a W Kc Q else Kc (a.put N undef) W := by
  subst hN
  exact event_step hw hrun h
/-- The steps from a device up to the root. -/
def upF (t : List S44) : Nat → Int → List S49
  | 0, _ => []
  | k + 1, n => if 0 < n then (⟨(rd_T44 t n).f0, (rd_T44 t n).f1, ⟨#[]⟩⟩ : S49) :: upF t k (rd_T44 t n).f2 else []
def u32B (l : List Int) : Bool := l.all fun u => decide (0 ≤ u ∧ u < 4294967296)
def pathOk (l : List S49) : Bool := l.all (fun x => u32B x.f1) && decide ((pathL l).length ≤ 1000000000)
def tree_Path.f (l0 : List S44) (a1 : Int) : Option (ByteArray × Int) := (tree_check.f l0 a1).bind fun e => if e = 0 then (if pathOk (upF l0 a1.toNat a1).reverse = true then some (showP (upF l0 a1.toNat a1).reverse) else none) else some (⟨#[]⟩, e)
theorem upF_len (t : List S44) : ∀ (k : Nat) (n : Int), (upF t k n).length ≤ k
  | 0, n => Nat.le_refl 0
  | k + 1, n => by
    unfold upF
    split
    · have := upF_len t k (rd_T44 t n).f2
      rw [List.length_cons]
      omega
    · exact Nat.zero_le _
theorem form_up {t : List S44} (h : treeF t = true) (i : Int) (h0 : 0 < i) (hi : i < t.length) : 0 ≤ (rd_T44 t i).f2 ∧ (rd_T44 t i).f2 < i := by
  have h1 := form_node h i.toNat (by omega)
  unfold nodeOk at h1
  rw [show t.getD i.toNat z44 = rd_T44 t i from rfl, show ((i.toNat : Nat) : Int) = i by omega, beq_eq_false_iff_ne.2 (show i ≠ 0 by omega)] at h1
  unfold kidOk at h1
  simp only [Bool.and_eq_true, Bool.not_eq_true', decide_eq_false_iff_not, Bool.false_eq_true, if_false] at h1
  omega
theorem u32_of {x : List Int} (h : u32B x = true) : U32L x := fun u hu => by
  have := List.all_eq_true.1 h u hu
  exact of_decide_eq_true this
theorem seg_take (cur : List Value) (n k : Nat) (h : k < n) : seg (cur.take (n * 3)) 3 k = seg cur 3 k := by
  apply List.ext_getElem?
  intro t
  by_cases ht : t < 3
  · rw [seg_get _ _ _ _ ht, seg_get _ _ _ _ ht, List.getElem?_take, if_pos (by omega)]
  · have h1 : ∀ c : List Value, (seg c 3 k)[t]? = none := fun c => by unfold seg; rw [List.getElem?_take, if_neg ht]
    rw [h1, h1]
set_option maxHeartbeats 4000000 in
set_option maxRecDepth 100000 in
theorem reverse_nil (w : World) : Calls Tryd.prog 58 #[.slice none 0 0] w fun e w' => (∃ v, e = .returned v) ∧ w' = w := by
  have hu49 := Tryd.underlying49
  have hw0 : wrap64 ((0 : Int) - 1) = -1 := by unfold wrap64; omega
  have hw1 : wrap64 (-1) = -1 := by unfold wrap64; omega
  go_enter Tryd.func58, Tryd.ntmps58
  go_wp2
  go_loopg [2, 3] 0 (fun kq v2 v3 w' => v2 = .int .i64 0 ∧ v3 = .int .i64 (-1) ∧ w' = w)
  case atStart => exact ⟨rfl, by first | rfl | decide, rfl⟩
  case round =>
    obtain ⟨rfl, rfl, rfl⟩ := hrel
    have dl : decide ((0 : Int) < -1) = false := by decide
    go_wp2
    go_end0
    exact ⟨⟨_, rfl⟩, rfl⟩
/-- What is left in the row behind the turning. -/
theorem rev_C {w w2 : World} {g : Nat} {cur cur' : Array Value} {ss : List S49} {css : List (List Value)} (hl : css.length = ss.length) (hm : ss.length ≤ 1000)
    (hK : ∀ (j : Nat) x c, ss[j]? = some x → css[j]? = some c → k49.K w x c) (hseg : ∀ (k : Nat) c, css[k]? = some c → seg cur.toList 3 k = c)
    (hh : w2.heap[g]? = some (.cells cur' 49 (0, 0))) (hs : ∀ k, k < css.length → seg cur'.toList 3 k = seg cur.toList 3 (css.length - 1 - k)) (hb : Below w.heap.size w w2) :
    Kd.C k49 w2 (some ⟨g, 0, none⟩) css.length ss.reverse := by
  refine ⟨by rw [List.length_reverse, hl], by omega, fun hp => ⟨_, rfl, fun j p hj => ?_⟩⟩
  have hjl : j < ss.length := by
    have := (List.getElem?_eq_some_iff.1 hj).1
    rwa [List.length_reverse] at this
  have e1 : ss[css.length - 1 - j]? = some p := by
    rw [List.getElem?_reverse hjl] at hj
    rw [hl]
    exact hj
  obtain ⟨c, hc⟩ : ∃ c, css[css.length - 1 - j]? = some c := ⟨_, List.getElem?_eq_getElem (show css.length - 1 - j < css.length by omega)⟩
  have hk := hK _ _ _ e1 hc
  have hsg : seg cur'.toList 3 j = c := (hs j (by omega)).trans (hseg _ _ hc)
  refine ⟨c, k49.K_len hk, k49.K_below hb hk, fun i u hu => ?_⟩
  have hi : i < 3 := by
    have := (List.getElem?_eq_some_iff.1 hu).1
    rwa [k49.K_len hk] at this
  have := cell_seg hh hsg hi hu
  rw [add_plain]
  exact this
set_option maxHeartbeats 8000000 in
set_option maxRecDepth 100000 in
theorem tree_Path.calls (A0 : Option Addr) (c0 : Nat) (l0 : List S44) (a1 : Int) (r1 : ByteArray) (r2 : Int) (w : World) (ht : QB.Tabs w) (hr0 : Kd.C k44 w A0 l0.length l0) (hc0 : l0.length ≤ c0) (h : tree_Path.f l0 a1 = some (r1, r2)) :
    Calls Tryd.prog 23 #[.slice A0 l0.length c0, .int .i64 a1] w fun e w' => e = .returned (.tuple #[.string r1, .int .i64 r2]) ∧ Below w.heap.size w w' := by
  have hu44 := Tryd.underlying44
  have mixed : Tryd.prog.follows Departure.mixedOrders = true := by kernel_rfl
  unfold tree_Path.f at h
  obtain ⟨e0, A1, H⟩ := Option.bind_eq_some_iff.mp h
  clear h
  have HCK := Aside0.mk (tree_check.calls A0 c0 l0 a1 e0 w hr0 hc0 A1)
  by_cases he : e0 = 0
  · subst he
    rw [if_pos rfl] at H
    have HIN := Aside0.mk (check_in A1)
    have HTF := Aside0.mk (check_form A1)
    have HLN := Aside0.mk (form_len (check_form A1))
    obtain ⟨S0, hS0⟩ : ∃ S0, S0 = upF l0 a1.toNat a1 := ⟨_, rfl⟩
    have hS1 : S0.length ≤ 32 := by
      have := upF_len l0 a1.toNat a1
      have := (check_in A1)
      have := form_len (check_form A1)
      rw [hS0]
      omega
    rw [← hS0] at H
    by_cases hp : pathOk S0.reverse = true
    · rw [if_pos hp] at H
      have hq := H
      injection hq with hq
      unfold pathOk at hp
      rw [Bool.and_eq_true] at hp
      have HU := Aside0.mk (show ∀ x ∈ S0.reverse, U32L x.f1 from fun x hx => u32_of (List.all_eq_true.1 hp.1 x hx))
      have HPL := Aside0.mk (of_decide_eq_true hp.2)
      have HQ := Aside0.mk hq
      have HS := Aside0.mk hS0
      have HSL := Aside0.mk hS1
      have HC0 := Aside0.mk hr0
      have HT := Aside0.mk ht
      clear H hp hq hS0 hS1 hr0 ht A1 hc0
      have HSH := Aside0.mk (fun (A : Option Addr) (c n : Nat) (W : World) (hb : Below w.heap.size w W) (hn : S0.reverse.length = n) (hC : Kd.C k49 W A n S0.reverse) (hc : n ≤ c) => show Calls Tryd.prog 59 #[.slice A n c] W fun e w' => e = .returned (.tuple #[.string r1, .int .i64 r2]) ∧ Below W.heap.size W w' by
        have h1 := show_calls A c S0.reverse W (HT.out.below hb) (by rw [hn]; exact hC) (by rw [hn]; exact hc) HU.out (by rw [List.length_reverse]; have := HSL.out; omega) HPL.out
        rw [HQ.out, hn] at h1
        exact h1)
      go_enter Tryd.func23, Tryd.ntmps23
      go_wp2_with (first
        | (go_at_call 53; refine HCK.out.mono ?_; rintro e w1 ⟨rfl, hb⟩; have HB := Aside0.mk hb; clear hb))
      go_loopg [1, 7] a1.toNat (fun kq v1 v7 w' => ∃ (n : Int) (ss : List S49) (css : List (List Value)), v1 = .int .i64 n ∧ Aside0 (0 ≤ n ∧ n ≤ kq ∧ n < l0.length) ∧ Aside0 (css.length = ss.length ∧ (∀ (j : Nat) x c, ss[j]? = some x → css[j]? = some c → k49.K w x c)) ∧ Aside0 (ss ++ upF l0 kq n = S0) ∧ Aside0 (Kd.R (Kd.raw 3) 49 w' w.heap.size (fun _ => True) v7 css) ∧ Aside0 (Below w.heap.size w w'))
      case atStart => exact ⟨a1, [], [], rfl, ⟨by have := HIN.out; omega⟩, ⟨rfl, fun j x c hx => by simp at hx⟩, ⟨HS.out.symm⟩, ⟨Kd.R_nil _ _ _ _ _⟩, HB⟩
      case round =>
        rename World => wr
        obtain ⟨n, ss, css, rfl, HN, HK, HSS, HR, HB⟩ := hrel
        by_cases hlt : 0 < n
        · have dl : decide (0 < n) = true := decide_eq_true hlt
          obtain ⟨kq, rfl⟩ : ∃ k, gk = k + 1 := ⟨gk - 1, by have := HN.out; omega⟩
          have hup := form_up HTF.out n hlt HN.out.2.2
          obtain ⟨ad, B1, b1, B3, b3, B4, b4, eA, hx0, hx1, hx2, hx3, hx4, hl1, hg1, hl3, hg3, hl4, hg4⟩ := at_T44 HC0.out n (by omega) HN.out.2.2
          cases eA
          replace hx0 := (HB.out.cell (World.block_lt_of_cell? w _ hx0)).trans hx0
          replace hx1 := (HB.out.cell (World.block_lt_of_cell? w _ hx1)).trans hx1
          have HX2 := Aside0.mk (fun (W : World) (hb : Below w.heap.size w W) => (hb.cell (World.block_lt_of_cell? w _ hx2)).trans hx2)
          have hss := HSS.out
          rw [upF, if_pos hlt] at hss
          have HK2 := Aside0.mk (k49_mk w (⟨(rd_T44 l0 n).f0, (rd_T44 l0 n).f1, ⟨#[]⟩⟩ : S49) hl1 hg1)
          have HS2 := Aside0.mk hss
          have HCL := Aside0.mk (show css.length ≤ 40 by
            have h1 := HSL.out
            rw [← hss, List.length_append] at h1
            have := HK.out.1
            omega)
          have HUP := Aside0.mk hup
          have p1 : (0 ≤ n) = True := eq_true (by omega)
          have p2 : (n < (l0.length : Int)) = True := eq_true HN.out.2.2
          have p3 : (n.toNat < l0.length) = True := eq_true (by have := HN.out; omega)
          generalize rd_T44 l0 n = x at *
          clear hss hup hx2 hx3 hx4 hl1 hg1 hl3 hg3 hl4 hg4 hlt
          go_wp2
          refine start_ (n := 15) (S := fun w' => w'.cell? (ad.add (n.toNat * 5)) = some (.string x.f0) ∧ w'.cell? ⟨(ad.add (n.toNat * 5)).block, (ad.add (n.toNat * 5)).off + 1, none⟩ = some (.slice B1 x.f1.length b1)) (ds := [13]) #[false, false, false, false, false, false, false, false, false, false, false, false, false, false, false] (by kernel_rfl) rfl rfl ⟨hx0, hx1⟩ (fun hHeld => ?_)
          refine pure_ (i := 0) (N := some 21) (v := ?_) (a' := ?_) #[true, false, false, false, false, false, false, false, false, false, false, false, false, false, false] rfl rfl (by kernel_rfl) (fun _ _ _ h => h) (Or.inl ⟨by rfl, ?_⟩) ?_ ?_
          rotate_left
          · intro w'
            go_simp
            with_reducible rfl
          rotate_left
          · simp only [Act.put, List.setIfInBounds_toArray, List.set_cons_zero, List.set_cons_succ]
            rfl
          refine pure_ (i := 1) (N := some 22) (v := ?_) (a' := ?_) #[true, true, false, false, false, false, false, false, false, false, false, false, false, false, false] rfl rfl (by kernel_rfl) (fun _ _ _ h => h) (Or.inl ⟨by rfl, ?_⟩) ?_ ?_
          rotate_left
          · intro w'
            go_simp
            with_reducible rfl
          rotate_left
          · simp only [Act.put, List.setIfInBounds_toArray, List.set_cons_zero, List.set_cons_succ]
            rfl
          refine pure_ (i := 2) (N := some 23) (v := ?_) (a' := ?_) #[true, true, true, false, false, false, false, false, false, false, false, false, false, false, false] rfl rfl (by kernel_rfl) (fun _ _ _ h => h) (Or.inl ⟨by rfl, ?_⟩) ?_ ?_
          rotate_left
          · intro w'
            go_simp
            with_reducible rfl
          rotate_left
          · simp only [Act.put, List.setIfInBounds_toArray, List.set_cons_zero, List.set_cons_succ]
            rfl
          refine pure_ (i := 3) (N := some 24) (v := ?_) (a' := ?_) #[true, true, true, true, false, false, false, false, false, false, false, false, false, false, false] rfl rfl (by kernel_rfl) (fun _ _ _ h => h) (Or.inl ⟨by rfl, ?_⟩) ?_ ?_
          rotate_left
          · intro w'
            go_simp
            with_reducible rfl
          rotate_left
          · simp only [Act.put, List.setIfInBounds_toArray, List.set_cons_zero, List.set_cons_succ]
            rfl
          refine pure_ (i := 4) (N := some 25) (v := ?_) (a' := ?_) #[true, true, true, true, true, false, false, false, false, false, false, false, false, false, false] rfl rfl (by kernel_rfl) (fun _ _ _ h => h) (Or.inl ⟨by rfl, ?_⟩) ?_ ?_
          rotate_left
          · intro w'
            go_simp
            with_reducible rfl
          rotate_left
          · simp only [Act.put, List.setIfInBounds_toArray, List.set_cons_zero, List.set_cons_succ]
            rfl
          refine pure_ (i := 6) (N := some 27) (v := ?_) (a' := ?_) #[true, true, true, true, true, false, true, false, false, false, false, false, false, false, false] rfl rfl (by kernel_rfl) (fun _ _ _ h => h) (Or.inl ⟨by rfl, ?_⟩) ?_ ?_
          rotate_left
          · intro w'
            go_simp
            with_reducible rfl
          rotate_left
          · simp only [Act.put, List.setIfInBounds_toArray, List.set_cons_zero, List.set_cons_succ]
            rfl
          refine pure_ (i := 7) (N := some 28) (v := ?_) (a' := ?_) #[true, true, true, true, true, false, true, true, false, false, false, false, false, false, false] rfl rfl (by kernel_rfl) (fun _ _ _ h => h) (Or.inl ⟨by rfl, ?_⟩) ?_ ?_
          rotate_left
          · intro w'
            go_simp
            with_reducible rfl
          rotate_left
          · simp only [Act.put, List.setIfInBounds_toArray, List.set_cons_zero, List.set_cons_succ]
            rfl
          refine pure_ (i := 8) (N := some 29) (v := ?_) (a' := ?_) #[true, true, true, true, true, false, true, true, true, false, false, false, false, false, false] rfl rfl (by kernel_rfl) (fun _ _ _ h => h) (Or.inl ⟨by rfl, ?_⟩) ?_ ?_
          rotate_left
          · intro w'
            go_simp
            with_reducible rfl
          rotate_left
          · simp only [Act.put, List.setIfInBounds_toArray, List.set_cons_zero, List.set_cons_succ]
            rfl
          refine pure_ (i := 9) (N := some 30) (v := ?_) (a' := ?_) #[true, true, true, true, true, false, true, true, true, true, false, false, false, false, false] rfl rfl (by kernel_rfl) (fun _ _ _ h => h) (Or.inl ⟨by rfl, ?_⟩) ?_ ?_
          rotate_left
          · intro w'
            go_simp
            with_reducible rfl
          rotate_left
          · simp only [Act.put, List.setIfInBounds_toArray, List.set_cons_zero, List.set_cons_succ]
            rfl
          refine take_ (i := 5) (N := some 26) (v := (.string x.f0)) (a' := ?_) #[true, true, true, true, true, true, true, true, true, true, false, false, false, false, false] rfl rfl (by kernel_rfl) (fun _ _ _ h => h) (Or.inl ⟨by rfl, ?_⟩) hHeld ?_ ?_
          rotate_left
          rotate_left
          · simp only [Act.put, List.setIfInBounds_toArray, List.set_cons_zero, List.set_cons_succ]
            rfl
          rotate_left
          · rintro w' ⟨s0, s1⟩
            go_simp
          refine take_ (i := 10) (N := some 31) (v := (.slice B1 x.f1.length b1)) (a' := ?_) #[true, true, true, true, true, true, true, true, true, true, true, false, false, false, false] rfl rfl (by kernel_rfl) (fun _ _ _ h => h) (Or.inl ⟨by rfl, ?_⟩) hHeld ?_ ?_
          rotate_left
          rotate_left
          · simp only [Act.put, List.setIfInBounds_toArray, List.set_cons_zero, List.set_cons_succ]
            rfl
          rotate_left
          · rintro w' ⟨s0, s1⟩
            go_simp
          refine pure_ (i := 11) (N := some 32) (v := ?_) (a' := ?_) #[true, true, true, true, true, true, true, true, true, true, true, true, false, false, false] rfl rfl (by kernel_rfl) (fun _ _ _ h => h) (Or.inl ⟨by rfl, ?_⟩) ?_ ?_
          rotate_left
          · intro w'
            go_simp
            with_reducible rfl
          rotate_left
          · simp only [Act.put, List.setIfInBounds_toArray, List.set_cons_zero, List.set_cons_succ]
            rfl
          obtain ⟨X, hX⟩ : ∃ X, X = wr.drew := ⟨_, rfl⟩
          have HRX := Aside0.mk (show Kd.R (Kd.raw 3) 49 X w.heap.size (fun _ => True) _ css by rw [hX]; exact Kd.R_drew HR.out)
          have HBX := Aside0.mk (show Below w.heap.size w X by rw [hX]; exact below_drew1 HB.out)
          rw [← hX] at hHeld ⊢
          clear hX
          refine one_ (i := 12) (N := some 33) #[true, true, true, true, true, true, true, true, true, true, true, true, true, false, false] rfl rfl (by kernel_rfl) (by decide) (fun K hK => ?_)
          refine event_stepN (by rfl) rfl (v := .slice (some ⟨X.heap.size, 0, none⟩) 1 1) (w1 := X.alloc (.cells #[.string x.f0, .slice B1 x.f1.length b1, .string ⟨#[]⟩] 49)) (by first | (go_simp; done) | (go_simp; rfl)) (hK.out _ _ ⟨((below_alloc (Below.refl X.heap.size X) _).cell (World.block_lt_of_cell? _ _ hHeld.1)).trans hHeld.1, ((below_alloc (Below.refl X.heap.size X) _).cell (World.block_lt_of_cell? _ _ hHeld.2)).trans hHeld.2⟩ (fun hHeld => ?_))
          clear hK K
          simp only [Act.put, List.setIfInBounds_toArray, List.set_cons_zero, List.set_cons_succ]
          refine last_ (i := 13) (N := some 34) #[true, true, true, true, true, true, true, true, true, true, true, true, true, true, false] rfl rfl (by kernel_rfl) (by decide) (fun K hK => ?_)
          refine Kd.R_append_step (Kd.raw 3) (w0 := w) w.heap.size (by rfl) (.tmp 21) (.tmp 33) 36 49 (.agg #[(.string ⟨#[]⟩), (.slice none 0 0), (.string ⟨#[]⟩)]) 56 rfl Tryd.underlying36 info49 rfl (by decide) (by decide) _ css [.string x.f0, .slice B1 x.f1.length b1, .string ⟨#[]⟩] [.string x.f0, .slice B1 x.f1.length b1, .string ⟨#[]⟩] (fun _ => True) (fun _ => False) rfl rfl ⟨rfl, rfl, by intro u hu; simp at hu; rcases hu with rfl | rfl | rfl <;> rfl⟩ (fun _ h => h.elim) (fun _ _ => trivial) HRX.out HBX.out HBX.out.size (by have := HCL.out; omega) ?_
          intro v1 w1 ho hb hg hat
          refine hK.out _ _ ?_
          have HR2 := Aside0.mk ho
          have HB2 := Aside0.mk hb
          clear hK K ho hb hg hat hHeld hx0 hx1
          simp only [Act.put, List.getElem_toArray, List.getElem_cons_succ, List.getElem_cons_zero, List.setIfInBounds_toArray, List.set_cons_zero, List.set_cons_succ]
          refine pure_ (i := 14) (N := some 7) (v := ?_) (a' := ?_) #[true, true, true, true, true, true, true, true, true, true, true, true, true, true, true] rfl rfl (by kernel_rfl) (fun _ _ _ h => h) (Or.inl ⟨by rfl, ?_⟩) ?_ ?_
          rotate_left
          · intro w'
            go_simp
            with_reducible rfl
          rotate_left
          · simp only [Act.put, List.setIfInBounds_toArray, List.set_cons_zero, List.set_cons_succ]
            rfl
          refine done_ (n := 0) (by kernel_rfl) ?_
          have hx2 := HX2.out _ HB2.out
          go_wp2
          go_roundg kq
          case measure => omega
          case rel =>
            refine ⟨x.f2, ss ++ [(⟨x.f0, x.f1, ⟨#[]⟩⟩ : S49)], css ++ [[.string x.f0, .slice B1 x.f1.length b1, .string ⟨#[]⟩]], rfl, ⟨by have h1 := HUP.out; have h2 := HN.out; omega⟩, ⟨by rw [List.length_append, List.length_append, HK.out.1]; rfl, fun j y c hy hc => ?_⟩, ⟨by rw [List.append_assoc]; exact HS2.out⟩, HR2, HB2⟩
            by_cases hj : j < ss.length
            · rw [List.getElem?_append_left hj] at hy
              rw [List.getElem?_append_left (by rw [HK.out.1]; exact hj)] at hc
              exact HK.out.2 j y c hy hc
            · rw [List.getElem?_append_right (by omega)] at hy
              rw [List.getElem?_append_right (by rw [HK.out.1]; omega), HK.out.1] at hc
              have hz : j - ss.length = 0 := by
                have := (List.getElem?_eq_some_iff.1 hy).1
                rw [List.length_singleton] at this
                omega
              rw [hz] at hy hc
              obtain rfl := Option.some.inj hy
              obtain rfl := Option.some.inj hc
              exact HK2.out
        · have dl : decide (0 < n) = false := decide_eq_false hlt
          have hss := HSS.out
          rw [show upF l0 gk n = [] by cases gk with | zero => rfl | succ k => (rw [upF, if_neg hlt]), List.append_nil] at hss
          subst hss
          clear hlt
          obtain ⟨hok, inner, ⟨hlen, ho⟩, hr⟩ := HR.out
          rcases ho with ⟨hv, hz⟩ | ⟨g, cap, cur, hv, hbg, hh, hic, hcm, hcs, htk⟩
          · subst hv
            have hz' : ss = [] := List.eq_nil_of_length_eq_zero (by rw [← HK.out.1]; exact hz)
            subst hz'
            clear hok hlen hr hz
            go_wp2_with (first
              | (go_at_call 58; refine (reverse_nil _).mono ?_; rintro e w2 ⟨⟨v, rfl⟩, rfl⟩)
              | (go_at_call 59; refine (HSH.out none 0 0 _ HB.out rfl ⟨rfl, by omega, fun hp => absurd hp (Nat.lt_irrefl 0)⟩ (Nat.le_refl 0)).mono ?_; rintro e w3 ⟨rfl, hb⟩; have HB3 := Aside0.mk (below_step HB.out hb); clear hb))
            go_ret2
            exact ⟨rfl, HB3.out⟩
          · subst hv
            have hseg : ∀ (k : Nat) c, css[k]? = some c → seg cur.toList 3 k = c := fun k c hk => by
              have h1 := (hr.2 k c hk).1
              have h2 : k < css.length := (List.getElem?_eq_some_iff.1 hk).1
              rw [← htk] at h1
              have h3 := seg_take cur.toList css.length k h2
              exact h3.symm.trans h1
            have hshape : ∀ k, k < css.length → ∃ s A m c t, seg cur.toList 3 k = [.string s, .slice A m c, .string t] := fun k hk => by
              obtain ⟨x, hx⟩ : ∃ x, ss[k]? = some x := ⟨_, List.getElem?_eq_getElem (show k < ss.length by rw [← HK.out.1]; exact hk)⟩
              obtain ⟨c, hc⟩ : ∃ c, css[k]? = some c := ⟨_, List.getElem?_eq_getElem hk⟩
              obtain ⟨A', c', e', -, -⟩ := k49_open (HK.out.2 k x c hx hc)
              exact ⟨_, _, _, _, _, (hseg k c hc).trans e'⟩
            have HRV := Aside0.mk (reverse_calls g css.length cap cur wr hh hcs hic (by have := HSL.out; have := HK.out.1; omega) hshape)
            have HSG := Aside0.mk hseg
            have HIC := Aside0.mk hic
            have HBG := Aside0.mk hbg
            clear hok hlen hr hseg hshape hh hic hcm hcs htk hbg
            go_wp2_with (first
              | (go_at_call 58; refine HRV.out.mono ?_; rintro e w2 ⟨⟨v, rfl⟩, cur', hh2, hsz, hsg, hgr⟩; have HB2 := Aside0.mk (HB.out.grown hgr HB.out.size (fun k' hk' => by injection hk' with hk'; have := HBG.out; omega)); have HC2 := Aside0.mk (rev_C HK.out.1 (by have := HSL.out; omega) HK.out.2 HSG.out hh2 hsg HB2.out); clear hh2 hsz hsg hgr)
              | (go_at_call 59; refine (HSH.out (some ⟨g, 0, none⟩) cap css.length _ HB2.out (by rw [List.length_reverse, HK.out.1]) HC2.out HIC.out).mono ?_; rintro e w3 ⟨rfl, hb⟩; have HB3 := Aside0.mk (below_step HB2.out hb); clear hb))
            go_ret2
            exact ⟨rfl, HB3.out⟩
    · rw [if_neg hp] at H
      cases H
  · rw [if_neg he] at H
    simp only [Option.some.injEq, Prod.mk.injEq] at H
    obtain ⟨rfl, rfl⟩ := H
    have heb : (e0 == 0) = false := beq_eq_false_iff_ne.2 he
    have heb2 : (e0 != 0) = true := bne_iff_ne.2 he
    clear hr0 hc0 A1 he
    go_enter Tryd.func23, Tryd.ntmps23
    go_wp2_with (first
      | (go_at_call 53; refine HCK.out.mono ?_; rintro e w1 ⟨rfl, hb⟩; have HB := Aside0.mk hb; clear hb))
    go_ret2
    exact ⟨rfl, HB.out⟩
end Go.Proofs.YtnalcjgefbelnaaDoor.Q
end
section
namespace Go.Proofs.YtnalcjgefbelnaaDoor.Q
open Go.RowKit Go.Proofs.YtnalcjgefbelnaaDoorW.PrintWords Go.Proofs.YtnalcjgefbelnaaDoorW.PrintLast Go.Proofs.YtnalcjgefbelnaaDoorW.PrintMore
set_option linter.unusedVariables false
set_option linter.unusedSimpArgs false

attribute [local go_sem] max2_int min2_int max_two min_two max_three min_three max_four min_four
/-! ### tinderlaw08_alive: function 11 -/
def tinderlaw08_alive.f  : Option (Bool) := (tree_New.f).bind fun t12001 => ((tree_Add.f t12001 0 (⟨#[112, 99, 105]⟩ : ByteArray) (([31] : List Int))).bind fun bt12007 => ((tree_Add.f bt12007.1 bt12007.2.1 (⟨#[100, 105, 115, 107]⟩ : ByteArray) ([] : List Int)).bind fun bt12012 => ((tree_Path.f bt12012.1 bt12012.2.1).bind fun bt12017 => (if bt12007.2.2 = 0 then (if bt12012.2.2 = 0 then (if bt12007.2.1 = 1 then (if bt12012.2.1 = 2 then (if bt12017.1.toList = ([47, 112, 99, 105, 64, 49, 102, 47, 100, 105, 115, 107] : List UInt8) then (some (bt12017.2 == 0)) else (some false)) else (some false)) else (some false)) else (some false)) else (some false)))))
set_option maxHeartbeats 8000000 in
set_option maxRecDepth 100000 in
theorem tinderlaw08_alive.calls  (r : Bool) (w : World) (ht : QB.Tabs w) (h : tinderlaw08_alive.f  = some r) :
    Calls Tryd.prog 11 #[] w fun e w' => e = .returned (.bool r) ∧ Below w.heap.size w w' := by
  have HB := Aside0.mk (Below.refl w.heap.size w)
  have H : ((tree_New.f).bind fun t12001 => ((tree_Add.f t12001 0 (⟨#[112, 99, 105]⟩ : ByteArray) (([31] : List Int))).bind fun bt12007 => ((tree_Add.f bt12007.1 bt12007.2.1 (⟨#[100, 105, 115, 107]⟩ : ByteArray) ([] : List Int)).bind fun bt12012 => ((tree_Path.f bt12012.1 bt12012.2.1).bind fun bt12017 => (if bt12007.2.2 = 0 then (if bt12012.2.2 = 0 then (if bt12007.2.1 = 1 then (if bt12012.2.1 = 2 then (if bt12017.1.toList = ([47, 112, 99, 105, 64, 49, 102, 47, 100, 105, 115, 107] : List UInt8) then (some (bt12017.2 == 0)) else (some false)) else (some false)) else (some false)) else (some false)) else (some false)))))) = some r := h
  clear h
  replace H := Option.bind_eq_some_iff.mp H
  obtain ⟨t12001, A10, H⟩ := H
  replace H : ((tree_Add.f t12001 0 (⟨#[112, 99, 105]⟩ : ByteArray) (([31] : List Int))).bind fun bt12007 => ((tree_Add.f bt12007.1 bt12007.2.1 (⟨#[100, 105, 115, 107]⟩ : ByteArray) ([] : List Int)).bind fun bt12012 => ((tree_Path.f bt12012.1 bt12012.2.1).bind fun bt12017 => (if bt12007.2.2 = 0 then (if bt12012.2.2 = 0 then (if bt12007.2.1 = 1 then (if bt12012.2.1 = 2 then (if bt12017.1.toList = ([47, 112, 99, 105, 64, 49, 102, 47, 100, 105, 115, 107] : List UInt8) then (some (bt12017.2 == 0)) else (some false)) else (some false)) else (some false)) else (some false)) else (some false))))) = some r := H
  have A1 := Aside0.mk A10
  clear A10
  obtain ⟨y12004, hy12004⟩ : ∃ y_ : List Int, y_ = (([31] : List Int)) := ⟨_, rfl⟩
  replace H : ((tree_Add.f t12001 0 (⟨#[112, 99, 105]⟩ : ByteArray) y12004).bind fun bt12007 => ((tree_Add.f bt12007.1 bt12007.2.1 (⟨#[100, 105, 115, 107]⟩ : ByteArray) ([] : List Int)).bind fun bt12012 => ((tree_Path.f bt12012.1 bt12012.2.1).bind fun bt12017 => (if bt12007.2.2 = 0 then (if bt12012.2.2 = 0 then (if bt12007.2.1 = 1 then (if bt12012.2.1 = 2 then (if bt12017.1.toList = ([47, 112, 99, 105, 64, 49, 102, 47, 100, 105, 115, 107] : List UInt8) then (some (bt12017.2 == 0)) else (some false)) else (some false)) else (some false)) else (some false)) else (some false))))) = some r := by first | (rw [hy12004]; with_reducible exact H) | (have H2_ := (Option.bind_some _ _).symm.trans H; rw [hy12004]; with_reducible exact H2_) | (have H2_ := (Option.bind_some _ _).symm.trans H; with_reducible exact H2_) | with_reducible exact H | (rw [hy12004]; exact H) | exact H
  have Ny12004 := Aside0.mk hy12004
  clear hy12004
  replace H := Option.bind_eq_some_iff.mp H
  obtain ⟨⟨t12007, t12008, t12009⟩, A20, H⟩ := H
  replace H : ((tree_Add.f t12007 t12008 (⟨#[100, 105, 115, 107]⟩ : ByteArray) ([] : List Int)).bind fun bt12012 => ((tree_Path.f bt12012.1 bt12012.2.1).bind fun bt12017 => (if t12009 = 0 then (if bt12012.2.2 = 0 then (if t12008 = 1 then (if bt12012.2.1 = 2 then (if bt12017.1.toList = ([47, 112, 99, 105, 64, 49, 102, 47, 100, 105, 115, 107] : List UInt8) then (some (bt12017.2 == 0)) else (some false)) else (some false)) else (some false)) else (some false)) else (some false)))) = some r := H
  have A2 := Aside0.mk A20
  clear A20
  replace H := Option.bind_eq_some_iff.mp H
  obtain ⟨⟨t12012, t12013, t12014⟩, A30, H⟩ := H
  replace H : ((tree_Path.f t12012 t12013).bind fun bt12017 => (if t12009 = 0 then (if t12014 = 0 then (if t12008 = 1 then (if t12013 = 2 then (if bt12017.1.toList = ([47, 112, 99, 105, 64, 49, 102, 47, 100, 105, 115, 107] : List UInt8) then (some (bt12017.2 == 0)) else (some false)) else (some false)) else (some false)) else (some false)) else (some false))) = some r := H
  have A3 := Aside0.mk A30
  clear A30
  replace H := Option.bind_eq_some_iff.mp H
  obtain ⟨⟨t12017, t12018⟩, A40, H⟩ := H
  replace H : (if t12009 = 0 then (if t12014 = 0 then (if t12008 = 1 then (if t12013 = 2 then (if t12017.toList = ([47, 112, 99, 105, 64, 49, 102, 47, 100, 105, 115, 107] : List UInt8) then (some (t12018 == 0)) else (some false)) else (some false)) else (some false)) else (some false)) else (some false)) = some r := H
  have A4 := Aside0.mk A40
  clear A40
  by_cases c5 : t12009 = 0
  · rw [if_pos c5] at H
    have c5b0 : (t12009 == 0) = true := beq_iff_eq.mpr c5
    have c5b1 : (t12009 != 0) = false := bne_eq_false_iff_eq.mpr c5
    clear c5
    by_cases c6 : t12014 = 0
    · rw [if_pos c6] at H
      have c6b0 : (t12014 == 0) = true := beq_iff_eq.mpr c6
      have c6b1 : (t12014 != 0) = false := bne_eq_false_iff_eq.mpr c6
      clear c6
      by_cases c7 : t12008 = 1
      · rw [if_pos c7] at H
        have c7b0 : (t12008 == 1) = true := beq_iff_eq.mpr c7
        have c7b1 : (t12008 != 1) = false := bne_eq_false_iff_eq.mpr c7
        clear c7
        by_cases c8 : t12013 = 2
        · rw [if_pos c8] at H
          have c8b0 : (t12013 == 2) = true := beq_iff_eq.mpr c8
          have c8b1 : (t12013 != 2) = false := bne_eq_false_iff_eq.mpr c8
          clear c8
          by_cases c9 : t12017.toList = ([47, 112, 99, 105, 64, 49, 102, 47, 100, 105, 115, 107] : List UInt8)
          · rw [if_pos c9] at H
            have c9b0 : (t12017.toList == ([47, 112, 99, 105, 64, 49, 102, 47, 100, 105, 115, 107] : List UInt8)) = true := beq_iff_eq.mpr c9
            have c9b1 : (t12017.toList != ([47, 112, 99, 105, 64, 49, 102, 47, 100, 105, 115, 107] : List UInt8)) = false := bne_eq_false_iff_eq.mpr c9
            clear c9
            obtain rfl := Option.some.inj H
            go_enter Tryd.func11, Tryd.ntmps11
            go_wp2_with (first | ((with_reducible refine gate_callee (f := 16) rfl ?_); refine goesL_ (some 9) rfl rfl Tryd.func16 (by kernel_rfl) rfl #[] rfl (by (try simp only [List.map_toArray, List.map_cons, List.map_nil]); first | done | rfl | (simp only [List.length_drop, List.length_take]; rfl)) ?_; (with_reducible refine (tree_New.calls  t12001 _ A1.out).mono ?_); rintro e w10 ⟨v12002, rfl, ho0, hb⟩; refine ⟨_, rfl, ?_⟩; have n0_ := Aside0.mk (Kd.R_lower ho0 (below_size (by repeat (first | (with_reducible first | exact HB.out | apply below_alloc | apply pw_below_drewN | apply below_drew1) | exact HB.out)))); have n1_ := Aside0.mk (below_step (by repeat (first | (with_reducible first | exact HB.out | apply below_alloc | apply pw_below_drewN | apply below_drew1) | exact HB.out)) hb); clear HB; have HO12003 := n0_; have HB := n1_; clear n0_ n1_; (try clear hb); (try clear hb2); (try clear hk); (try clear hi); (try clear ho0)) | ((with_reducible refine gate_dst (N := 10) rfl ?_); refine Kd.R_lit (Kd.int .u32) _ 66 ?hg (N := 10) ?hd (xs := ([31] : List Int)) (inner := [.int .u32 31]) (ok := fun _ => True) (okp := fun _ => True) ?hr ?hp (fun _ hk => hk) trivial (Below.refl _ _) (Nat.le_refl _) (by simp) ?_; (case hd => rfl); (case hg => rfl); (case hr => first | (go_simp; done) | (go_simp; rfl)); (case hp => exact (Reps.one (show Kd.M (Kd.int .u32) _ _ _ 31 [.int .u32 31] from rfl) (Reps.none _ _))); intro v12005 w11 ho12 hb hg_ hnew_; clear hg_ hnew_; (first | rw [← Ny12004.out] at ho12 | (simp only [Int.reduceToNat] at ho12; rw [← Ny12004.out] at ho12)); have n0_ := Aside0.mk (Kd.R_elder' (by (with_reducible repeat (first | apply Kd.R_alloc | apply Kd.R_drewN | apply Kd.R_drew)); exact HO12003.out) (Kd.R_base ho12) hb); have n1_ := Aside0.mk (Kd.R_lower ho12 (below_size (by repeat (first | (with_reducible first | exact HB.out | apply below_alloc | apply pw_below_drewN | apply below_drew1) | exact HB.out)))); have n2_ := Aside0.mk (below_step (by repeat (first | (with_reducible first | exact HB.out | apply below_alloc | apply pw_below_drewN | apply below_drew1) | exact HB.out)) hb); clear HO12003; clear HB; have HO12003 := n0_; have HO12006 := n1_; have HB := n2_; clear n0_ n1_ n2_; clear hb ho12; obtain ⟨Ao13, co13, eo13⟩ := Kd.R_slice HO12003.out; subst eo13; obtain ⟨Ao14, co14, eo14⟩ := Kd.R_slice HO12006.out; subst eo14) | ((with_reducible refine gate_callee (f := 19) rfl ?_); refine goesL_ (some 11) rfl rfl Tryd.func19 (by kernel_rfl) rfl #[.slice Ao13 t12001.length co13, .int .i64 0, .string (⟨#[112, 99, 105]⟩ : ByteArray), .slice Ao14 y12004.length co14] rfl (by (try simp only [List.map_toArray, List.map_cons, List.map_nil]); first | done | rfl | (simp only [List.length_drop, List.length_take]; rfl)) ?_; (with_reducible refine (tree_Add.calls _ _ t12001 0 (⟨#[112, 99, 105]⟩ : ByteArray) _ _ y12004 t12007 t12008 t12009 _ ?side1 ?side2 ?side3 ?side4 A2.out).mono ?_); (case side1 => repeat (first | exact (Kd.R_reads' HO12003.out).2.2 | (with_reducible refine Kd.C_alloc ?_ _) | (with_reducible refine Kd.C_drewN ?_ _) | (with_reducible refine Kd.C_drew ?_))); (case side2 => exact (Kd.R_reads' HO12003.out).2.1); (case side3 => repeat (first | exact (Kd.R_reads' HO12006.out).2.2 | (with_reducible refine Kd.C_alloc ?_ _) | (with_reducible refine Kd.C_drewN ?_ _) | (with_reducible refine Kd.C_drew ?_))); (case side4 => exact (Kd.R_reads' HO12006.out).2.1); rintro e w15 ⟨v12010, rfl, ho0, hb⟩; refine ⟨_, rfl, ?_⟩; have n0_ := Aside0.mk (Kd.R_elder' (by (with_reducible repeat (first | apply Kd.R_alloc | apply Kd.R_drewN | apply Kd.R_drew)); exact HO12003.out) (Kd.R_base ho0) hb); have n1_ := Aside0.mk (Kd.R_below (by (with_reducible repeat (first | apply Kd.R_alloc | apply Kd.R_drewN | apply Kd.R_drew)); exact HO12006.out) hb); have n2_ := Aside0.mk (Kd.R_lower (Kd.R_new' (Kd.R_new' ho0 (Kd.R_lt (by (with_reducible repeat (first | apply Kd.R_alloc | apply Kd.R_drewN | apply Kd.R_drew)); exact HO12003.out))) (Kd.R_lt (by (with_reducible repeat (first | apply Kd.R_alloc | apply Kd.R_drewN | apply Kd.R_drew)); exact HO12006.out))) (below_size (by repeat (first | (with_reducible first | exact HB.out | apply below_alloc | apply pw_below_drewN | apply below_drew1) | exact HB.out)))); have n3_ := Aside0.mk (below_step (by repeat (first | (with_reducible first | exact HB.out | apply below_alloc | apply pw_below_drewN | apply below_drew1) | exact HB.out)) hb); clear HO12003; clear HO12006; clear HB; have HO12003 := n0_; have HO12006 := n1_; have HO12011 := n2_; have HB := n3_; clear n0_ n1_ n2_ n3_; (try clear hb); (try clear hb2); (try clear hk); (try clear hi); (try clear ho0); obtain ⟨Ao16, co16, eo16⟩ := Kd.R_slice HO12011.out; subst eo16) | ((with_reducible refine gate_callee (f := 19) rfl ?_); refine goesL_ (some 18) rfl rfl Tryd.func19 (by kernel_rfl) rfl #[.slice Ao16 t12007.length co16, .int .i64 t12008, .string (⟨#[100, 105, 115, 107]⟩ : ByteArray), .slice none 0 0] rfl (by (try simp only [List.map_toArray, List.map_cons, List.map_nil]); first | done | rfl | (simp only [List.length_drop, List.length_take]; rfl)) ?_; (refine (tree_Add.calls _ _ t12007 t12008 (⟨#[100, 105, 115, 107]⟩ : ByteArray) _ _ ([] : List Int) t12012 t12013 t12014 _ ?side1 ?side2 ?side3 ?side4 A3.out).mono ?_); (case side1 => repeat (first | exact (Kd.R_reads' HO12011.out).2.2 | (with_reducible refine Kd.C_alloc ?_ _) | (with_reducible refine Kd.C_drewN ?_ _) | (with_reducible refine Kd.C_drew ?_))); (case side2 => exact (Kd.R_reads' HO12011.out).2.1); (case side3 => exact Kd.C_nil _ _); (case side4 => exact Nat.le_refl _); rintro e w17 ⟨v12015, rfl, ho0, hb⟩; refine ⟨_, rfl, ?_⟩; have n0_ := Aside0.mk (Kd.R_elder' (by (with_reducible repeat (first | apply Kd.R_alloc | apply Kd.R_drewN | apply Kd.R_drew)); exact HO12003.out) (Kd.R_base ho0) hb); have n1_ := Aside0.mk (Kd.R_below (by (with_reducible repeat (first | apply Kd.R_alloc | apply Kd.R_drewN | apply Kd.R_drew)); exact HO12006.out) hb); have n2_ := Aside0.mk (Kd.R_elder' (by (with_reducible repeat (first | apply Kd.R_alloc | apply Kd.R_drewN | apply Kd.R_drew)); exact HO12011.out) (Kd.R_base ho0) hb); have n3_ := Aside0.mk (Kd.R_lower (Kd.R_new' (Kd.R_new' (Kd.R_new' ho0 (Kd.R_lt (by (with_reducible repeat (first | apply Kd.R_alloc | apply Kd.R_drewN | apply Kd.R_drew)); exact HO12003.out))) (Kd.R_lt (by (with_reducible repeat (first | apply Kd.R_alloc | apply Kd.R_drewN | apply Kd.R_drew)); exact HO12006.out))) (Kd.R_lt (by (with_reducible repeat (first | apply Kd.R_alloc | apply Kd.R_drewN | apply Kd.R_drew)); exact HO12011.out))) (below_size (by repeat (first | (with_reducible first | exact HB.out | apply below_alloc | apply pw_below_drewN | apply below_drew1) | exact HB.out)))); have n4_ := Aside0.mk (below_step (by repeat (first | (with_reducible first | exact HB.out | apply below_alloc | apply pw_below_drewN | apply below_drew1) | exact HB.out)) hb); clear HO12003; clear HO12006; clear HO12011; clear HB; have HO12003 := n0_; have HO12006 := n1_; have HO12011 := n2_; have HO12016 := n3_; have HB := n4_; clear n0_ n1_ n2_ n3_ n4_; (try clear hb); (try clear hb2); (try clear hk); (try clear hi); (try clear ho0); obtain ⟨Ao18, co18, eo18⟩ := Kd.R_slice HO12016.out; subst eo18) | ((with_reducible refine gate_callee (f := 23) rfl ?_); refine goesL_ (some 25) rfl rfl Tryd.func23 (by kernel_rfl) rfl #[.slice Ao18 t12012.length co18, .int .i64 t12013] rfl (by (try simp only [List.map_toArray, List.map_cons, List.map_nil]); first | done | rfl | (simp only [List.length_drop, List.length_take]; rfl)) ?_; (with_reducible refine (tree_Path.calls _ _ t12012 t12013 t12017 t12018 _ (QB.Tabs.below ht (by repeat (first | (with_reducible first | exact HB.out | apply below_alloc | apply pw_below_drewN | apply below_drew1 | refine below_set ?_ (Aside0.out (by assumption))) | exact HB.out))) ?side1 ?side2 A4.out).mono ?_); (case side1 => repeat (first | exact (Kd.R_reads' HO12016.out).2.2 | (with_reducible refine Kd.C_alloc ?_ _) | (with_reducible refine Kd.C_drewN ?_ _) | (with_reducible refine Kd.C_drew ?_))); (case side2 => exact (Kd.R_reads' HO12016.out).2.1); rintro e w19 ⟨rfl, hb⟩; refine ⟨_, rfl, ?_⟩; have n0_ := Aside0.mk (Kd.R_below (by (with_reducible repeat (first | apply Kd.R_alloc | apply Kd.R_drewN | apply Kd.R_drew)); exact HO12003.out) hb); have n1_ := Aside0.mk (Kd.R_below (by (with_reducible repeat (first | apply Kd.R_alloc | apply Kd.R_drewN | apply Kd.R_drew)); exact HO12006.out) hb); have n2_ := Aside0.mk (Kd.R_below (by (with_reducible repeat (first | apply Kd.R_alloc | apply Kd.R_drewN | apply Kd.R_drew)); exact HO12011.out) hb); have n3_ := Aside0.mk (Kd.R_below (by (with_reducible repeat (first | apply Kd.R_alloc | apply Kd.R_drewN | apply Kd.R_drew)); exact HO12016.out) hb); have n4_ := Aside0.mk (below_step (by repeat (first | (with_reducible first | exact HB.out | apply below_alloc | apply pw_below_drewN | apply below_drew1) | exact HB.out)) hb); clear HO12003; clear HO12006; clear HO12011; clear HO12016; clear HB; have HO12003 := n0_; have HO12006 := n1_; have HO12011 := n2_; have HO12016 := n3_; have HB := n4_; clear n0_ n1_ n2_ n3_ n4_; (try clear hb); (try clear hb2); (try clear hk); (try clear hi)))
            go_ret
            exact ⟨by first | rfl | (simp [errW_none, errW_some] <;> rfl) | (simp [*, errW_none, errW_some] <;> rfl), by repeat (first | (with_reducible first | exact HB.out | apply below_alloc | apply pw_below_drewN | apply below_drew1) | exact HB.out)⟩
          · rw [if_neg c9] at H
            have c9b0 : (t12017.toList == ([47, 112, 99, 105, 64, 49, 102, 47, 100, 105, 115, 107] : List UInt8)) = false := beq_eq_false_iff_ne.mpr c9
            have c9b1 : (t12017.toList != ([47, 112, 99, 105, 64, 49, 102, 47, 100, 105, 115, 107] : List UInt8)) = true := bne_iff_ne.mpr c9
            obtain rfl := Option.some.inj H
            go_enter Tryd.func11, Tryd.ntmps11
            go_wp2_with (first | ((with_reducible refine gate_callee (f := 16) rfl ?_); refine goesL_ (some 9) rfl rfl Tryd.func16 (by kernel_rfl) rfl #[] rfl (by (try simp only [List.map_toArray, List.map_cons, List.map_nil]); first | done | rfl | (simp only [List.length_drop, List.length_take]; rfl)) ?_; (with_reducible refine (tree_New.calls  t12001 _ A1.out).mono ?_); rintro e w20 ⟨v12002, rfl, ho0, hb⟩; refine ⟨_, rfl, ?_⟩; have n0_ := Aside0.mk (Kd.R_lower ho0 (below_size (by repeat (first | (with_reducible first | exact HB.out | apply below_alloc | apply pw_below_drewN | apply below_drew1) | exact HB.out)))); have n1_ := Aside0.mk (below_step (by repeat (first | (with_reducible first | exact HB.out | apply below_alloc | apply pw_below_drewN | apply below_drew1) | exact HB.out)) hb); clear HB; have HO12003 := n0_; have HB := n1_; clear n0_ n1_; (try clear hb); (try clear hb2); (try clear hk); (try clear hi); (try clear ho0)) | ((with_reducible refine gate_dst (N := 10) rfl ?_); refine Kd.R_lit (Kd.int .u32) _ 66 ?hg (N := 10) ?hd (xs := ([31] : List Int)) (inner := [.int .u32 31]) (ok := fun _ => True) (okp := fun _ => True) ?hr ?hp (fun _ hk => hk) trivial (Below.refl _ _) (Nat.le_refl _) (by simp) ?_; (case hd => rfl); (case hg => rfl); (case hr => first | (go_simp; done) | (go_simp; rfl)); (case hp => exact (Reps.one (show Kd.M (Kd.int .u32) _ _ _ 31 [.int .u32 31] from rfl) (Reps.none _ _))); intro v12005 w21 ho22 hb hg_ hnew_; clear hg_ hnew_; (first | rw [← Ny12004.out] at ho22 | (simp only [Int.reduceToNat] at ho22; rw [← Ny12004.out] at ho22)); have n0_ := Aside0.mk (Kd.R_elder' (by (with_reducible repeat (first | apply Kd.R_alloc | apply Kd.R_drewN | apply Kd.R_drew)); exact HO12003.out) (Kd.R_base ho22) hb); have n1_ := Aside0.mk (Kd.R_lower ho22 (below_size (by repeat (first | (with_reducible first | exact HB.out | apply below_alloc | apply pw_below_drewN | apply below_drew1) | exact HB.out)))); have n2_ := Aside0.mk (below_step (by repeat (first | (with_reducible first | exact HB.out | apply below_alloc | apply pw_below_drewN | apply below_drew1) | exact HB.out)) hb); clear HO12003; clear HB; have HO12003 := n0_; have HO12006 := n1_; have HB := n2_; clear n0_ n1_ n2_; clear hb ho22; obtain ⟨Ao23, co23, eo23⟩ := Kd.R_slice HO12003.out; subst eo23; obtain ⟨Ao24, co24, eo24⟩ := Kd.R_slice HO12006.out; subst eo24) | ((with_reducible refine gate_callee (f := 19) rfl ?_); refine goesL_ (some 11) rfl rfl Tryd.func19 (by kernel_rfl) rfl #[.slice Ao23 t12001.length co23, .int .i64 0, .string (⟨#[112, 99, 105]⟩ : ByteArray), .slice Ao24 y12004.length co24] rfl (by (try simp only [List.map_toArray, List.map_cons, List.map_nil]); first | done | rfl | (simp only [List.length_drop, List.length_take]; rfl)) ?_; (with_reducible refine (tree_Add.calls _ _ t12001 0 (⟨#[112, 99, 105]⟩ : ByteArray) _ _ y12004 t12007 t12008 t12009 _ ?side1 ?side2 ?side3 ?side4 A2.out).mono ?_); (case side1 => repeat (first | exact (Kd.R_reads' HO12003.out).2.2 | (with_reducible refine Kd.C_alloc ?_ _) | (with_reducible refine Kd.C_drewN ?_ _) | (with_reducible refine Kd.C_drew ?_))); (case side2 => exact (Kd.R_reads' HO12003.out).2.1); (case side3 => repeat (first | exact (Kd.R_reads' HO12006.out).2.2 | (with_reducible refine Kd.C_alloc ?_ _) | (with_reducible refine Kd.C_drewN ?_ _) | (with_reducible refine Kd.C_drew ?_))); (case side4 => exact (Kd.R_reads' HO12006.out).2.1); rintro e w25 ⟨v12010, rfl, ho0, hb⟩; refine ⟨_, rfl, ?_⟩; have n0_ := Aside0.mk (Kd.R_elder' (by (with_reducible repeat (first | apply Kd.R_alloc | apply Kd.R_drewN | apply Kd.R_drew)); exact HO12003.out) (Kd.R_base ho0) hb); have n1_ := Aside0.mk (Kd.R_below (by (with_reducible repeat (first | apply Kd.R_alloc | apply Kd.R_drewN | apply Kd.R_drew)); exact HO12006.out) hb); have n2_ := Aside0.mk (Kd.R_lower (Kd.R_new' (Kd.R_new' ho0 (Kd.R_lt (by (with_reducible repeat (first | apply Kd.R_alloc | apply Kd.R_drewN | apply Kd.R_drew)); exact HO12003.out))) (Kd.R_lt (by (with_reducible repeat (first | apply Kd.R_alloc | apply Kd.R_drewN | apply Kd.R_drew)); exact HO12006.out))) (below_size (by repeat (first | (with_reducible first | exact HB.out | apply below_alloc | apply pw_below_drewN | apply below_drew1) | exact HB.out)))); have n3_ := Aside0.mk (below_step (by repeat (first | (with_reducible first | exact HB.out | apply below_alloc | apply pw_below_drewN | apply below_drew1) | exact HB.out)) hb); clear HO12003; clear HO12006; clear HB; have HO12003 := n0_; have HO12006 := n1_; have HO12011 := n2_; have HB := n3_; clear n0_ n1_ n2_ n3_; (try clear hb); (try clear hb2); (try clear hk); (try clear hi); (try clear ho0); obtain ⟨Ao26, co26, eo26⟩ := Kd.R_slice HO12011.out; subst eo26) | ((with_reducible refine gate_callee (f := 19) rfl ?_); refine goesL_ (some 18) rfl rfl Tryd.func19 (by kernel_rfl) rfl #[.slice Ao26 t12007.length co26, .int .i64 t12008, .string (⟨#[100, 105, 115, 107]⟩ : ByteArray), .slice none 0 0] rfl (by (try simp only [List.map_toArray, List.map_cons, List.map_nil]); first | done | rfl | (simp only [List.length_drop, List.length_take]; rfl)) ?_; (refine (tree_Add.calls _ _ t12007 t12008 (⟨#[100, 105, 115, 107]⟩ : ByteArray) _ _ ([] : List Int) t12012 t12013 t12014 _ ?side1 ?side2 ?side3 ?side4 A3.out).mono ?_); (case side1 => repeat (first | exact (Kd.R_reads' HO12011.out).2.2 | (with_reducible refine Kd.C_alloc ?_ _) | (with_reducible refine Kd.C_drewN ?_ _) | (with_reducible refine Kd.C_drew ?_))); (case side2 => exact (Kd.R_reads' HO12011.out).2.1); (case side3 => exact Kd.C_nil _ _); (case side4 => exact Nat.le_refl _); rintro e w27 ⟨v12015, rfl, ho0, hb⟩; refine ⟨_, rfl, ?_⟩; have n0_ := Aside0.mk (Kd.R_elder' (by (with_reducible repeat (first | apply Kd.R_alloc | apply Kd.R_drewN | apply Kd.R_drew)); exact HO12003.out) (Kd.R_base ho0) hb); have n1_ := Aside0.mk (Kd.R_below (by (with_reducible repeat (first | apply Kd.R_alloc | apply Kd.R_drewN | apply Kd.R_drew)); exact HO12006.out) hb); have n2_ := Aside0.mk (Kd.R_elder' (by (with_reducible repeat (first | apply Kd.R_alloc | apply Kd.R_drewN | apply Kd.R_drew)); exact HO12011.out) (Kd.R_base ho0) hb); have n3_ := Aside0.mk (Kd.R_lower (Kd.R_new' (Kd.R_new' (Kd.R_new' ho0 (Kd.R_lt (by (with_reducible repeat (first | apply Kd.R_alloc | apply Kd.R_drewN | apply Kd.R_drew)); exact HO12003.out))) (Kd.R_lt (by (with_reducible repeat (first | apply Kd.R_alloc | apply Kd.R_drewN | apply Kd.R_drew)); exact HO12006.out))) (Kd.R_lt (by (with_reducible repeat (first | apply Kd.R_alloc | apply Kd.R_drewN | apply Kd.R_drew)); exact HO12011.out))) (below_size (by repeat (first | (with_reducible first | exact HB.out | apply below_alloc | apply pw_below_drewN | apply below_drew1) | exact HB.out)))); have n4_ := Aside0.mk (below_step (by repeat (first | (with_reducible first | exact HB.out | apply below_alloc | apply pw_below_drewN | apply below_drew1) | exact HB.out)) hb); clear HO12003; clear HO12006; clear HO12011; clear HB; have HO12003 := n0_; have HO12006 := n1_; have HO12011 := n2_; have HO12016 := n3_; have HB := n4_; clear n0_ n1_ n2_ n3_ n4_; (try clear hb); (try clear hb2); (try clear hk); (try clear hi); (try clear ho0); obtain ⟨Ao28, co28, eo28⟩ := Kd.R_slice HO12016.out; subst eo28) | ((with_reducible refine gate_callee (f := 23) rfl ?_); refine goesL_ (some 25) rfl rfl Tryd.func23 (by kernel_rfl) rfl #[.slice Ao28 t12012.length co28, .int .i64 t12013] rfl (by (try simp only [List.map_toArray, List.map_cons, List.map_nil]); first | done | rfl | (simp only [List.length_drop, List.length_take]; rfl)) ?_; (with_reducible refine (tree_Path.calls _ _ t12012 t12013 t12017 t12018 _ (QB.Tabs.below ht (by repeat (first | (with_reducible first | exact HB.out | apply below_alloc | apply pw_below_drewN | apply below_drew1 | refine below_set ?_ (Aside0.out (by assumption))) | exact HB.out))) ?side1 ?side2 A4.out).mono ?_); (case side1 => repeat (first | exact (Kd.R_reads' HO12016.out).2.2 | (with_reducible refine Kd.C_alloc ?_ _) | (with_reducible refine Kd.C_drewN ?_ _) | (with_reducible refine Kd.C_drew ?_))); (case side2 => exact (Kd.R_reads' HO12016.out).2.1); rintro e w29 ⟨rfl, hb⟩; refine ⟨_, rfl, ?_⟩; have n0_ := Aside0.mk (Kd.R_below (by (with_reducible repeat (first | apply Kd.R_alloc | apply Kd.R_drewN | apply Kd.R_drew)); exact HO12003.out) hb); have n1_ := Aside0.mk (Kd.R_below (by (with_reducible repeat (first | apply Kd.R_alloc | apply Kd.R_drewN | apply Kd.R_drew)); exact HO12006.out) hb); have n2_ := Aside0.mk (Kd.R_below (by (with_reducible repeat (first | apply Kd.R_alloc | apply Kd.R_drewN | apply Kd.R_drew)); exact HO12011.out) hb); have n3_ := Aside0.mk (Kd.R_below (by (with_reducible repeat (first | apply Kd.R_alloc | apply Kd.R_drewN | apply Kd.R_drew)); exact HO12016.out) hb); have n4_ := Aside0.mk (below_step (by repeat (first | (with_reducible first | exact HB.out | apply below_alloc | apply pw_below_drewN | apply below_drew1) | exact HB.out)) hb); clear HO12003; clear HO12006; clear HO12011; clear HO12016; clear HB; have HO12003 := n0_; have HO12006 := n1_; have HO12011 := n2_; have HO12016 := n3_; have HB := n4_; clear n0_ n1_ n2_ n3_ n4_; (try clear hb); (try clear hb2); (try clear hk); (try clear hi)))
            go_ret
            exact ⟨by first | rfl | (simp [errW_none, errW_some] <;> rfl) | (simp [*, errW_none, errW_some] <;> rfl), by repeat (first | (with_reducible first | exact HB.out | apply below_alloc | apply pw_below_drewN | apply below_drew1) | exact HB.out)⟩
        · rw [if_neg c8] at H
          have c8b0 : (t12013 == 2) = false := beq_eq_false_iff_ne.mpr c8
          have c8b1 : (t12013 != 2) = true := bne_iff_ne.mpr c8
          obtain rfl := Option.some.inj H
          go_enter Tryd.func11, Tryd.ntmps11
          go_wp2_with (first | ((with_reducible refine gate_callee (f := 16) rfl ?_); refine goesL_ (some 9) rfl rfl Tryd.func16 (by kernel_rfl) rfl #[] rfl (by (try simp only [List.map_toArray, List.map_cons, List.map_nil]); first | done | rfl | (simp only [List.length_drop, List.length_take]; rfl)) ?_; (with_reducible refine (tree_New.calls  t12001 _ A1.out).mono ?_); rintro e w30 ⟨v12002, rfl, ho0, hb⟩; refine ⟨_, rfl, ?_⟩; have n0_ := Aside0.mk (Kd.R_lower ho0 (below_size (by repeat (first | (with_reducible first | exact HB.out | apply below_alloc | apply pw_below_drewN | apply below_drew1) | exact HB.out)))); have n1_ := Aside0.mk (below_step (by repeat (first | (with_reducible first | exact HB.out | apply below_alloc | apply pw_below_drewN | apply below_drew1) | exact HB.out)) hb); clear HB; have HO12003 := n0_; have HB := n1_; clear n0_ n1_; (try clear hb); (try clear hb2); (try clear hk); (try clear hi); (try clear ho0)) | ((with_reducible refine gate_dst (N := 10) rfl ?_); refine Kd.R_lit (Kd.int .u32) _ 66 ?hg (N := 10) ?hd (xs := ([31] : List Int)) (inner := [.int .u32 31]) (ok := fun _ => True) (okp := fun _ => True) ?hr ?hp (fun _ hk => hk) trivial (Below.refl _ _) (Nat.le_refl _) (by simp) ?_; (case hd => rfl); (case hg => rfl); (case hr => first | (go_simp; done) | (go_simp; rfl)); (case hp => exact (Reps.one (show Kd.M (Kd.int .u32) _ _ _ 31 [.int .u32 31] from rfl) (Reps.none _ _))); intro v12005 w31 ho32 hb hg_ hnew_; clear hg_ hnew_; (first | rw [← Ny12004.out] at ho32 | (simp only [Int.reduceToNat] at ho32; rw [← Ny12004.out] at ho32)); have n0_ := Aside0.mk (Kd.R_elder' (by (with_reducible repeat (first | apply Kd.R_alloc | apply Kd.R_drewN | apply Kd.R_drew)); exact HO12003.out) (Kd.R_base ho32) hb); have n1_ := Aside0.mk (Kd.R_lower ho32 (below_size (by repeat (first | (with_reducible first | exact HB.out | apply below_alloc | apply pw_below_drewN | apply below_drew1) | exact HB.out)))); have n2_ := Aside0.mk (below_step (by repeat (first | (with_reducible first | exact HB.out | apply below_alloc | apply pw_below_drewN | apply below_drew1) | exact HB.out)) hb); clear HO12003; clear HB; have HO12003 := n0_; have HO12006 := n1_; have HB := n2_; clear n0_ n1_ n2_; clear hb ho32; obtain ⟨Ao33, co33, eo33⟩ := Kd.R_slice HO12003.out; subst eo33; obtain ⟨Ao34, co34, eo34⟩ := Kd.R_slice HO12006.out; subst eo34) | ((with_reducible refine gate_callee (f := 19) rfl ?_); refine goesL_ (some 11) rfl rfl Tryd.func19 (by kernel_rfl) rfl #[.slice Ao33 t12001.length co33, .int .i64 0, .string (⟨#[112, 99, 105]⟩ : ByteArray), .slice Ao34 y12004.length co34] rfl (by (try simp only [List.map_toArray, List.map_cons, List.map_nil]); first | done | rfl | (simp only [List.length_drop, List.length_take]; rfl)) ?_; (with_reducible refine (tree_Add.calls _ _ t12001 0 (⟨#[112, 99, 105]⟩ : ByteArray) _ _ y12004 t12007 t12008 t12009 _ ?side1 ?side2 ?side3 ?side4 A2.out).mono ?_); (case side1 => repeat (first | exact (Kd.R_reads' HO12003.out).2.2 | (with_reducible refine Kd.C_alloc ?_ _) | (with_reducible refine Kd.C_drewN ?_ _) | (with_reducible refine Kd.C_drew ?_))); (case side2 => exact (Kd.R_reads' HO12003.out).2.1); (case side3 => repeat (first | exact (Kd.R_reads' HO12006.out).2.2 | (with_reducible refine Kd.C_alloc ?_ _) | (with_reducible refine Kd.C_drewN ?_ _) | (with_reducible refine Kd.C_drew ?_))); (case side4 => exact (Kd.R_reads' HO12006.out).2.1); rintro e w35 ⟨v12010, rfl, ho0, hb⟩; refine ⟨_, rfl, ?_⟩; have n0_ := Aside0.mk (Kd.R_elder' (by (with_reducible repeat (first | apply Kd.R_alloc | apply Kd.R_drewN | apply Kd.R_drew)); exact HO12003.out) (Kd.R_base ho0) hb); have n1_ := Aside0.mk (Kd.R_below (by (with_reducible repeat (first | apply Kd.R_alloc | apply Kd.R_drewN | apply Kd.R_drew)); exact HO12006.out) hb); have n2_ := Aside0.mk (Kd.R_lower (Kd.R_new' (Kd.R_new' ho0 (Kd.R_lt (by (with_reducible repeat (first | apply Kd.R_alloc | apply Kd.R_drewN | apply Kd.R_drew)); exact HO12003.out))) (Kd.R_lt (by (with_reducible repeat (first | apply Kd.R_alloc | apply Kd.R_drewN | apply Kd.R_drew)); exact HO12006.out))) (below_size (by repeat (first | (with_reducible first | exact HB.out | apply below_alloc | apply pw_below_drewN | apply below_drew1) | exact HB.out)))); have n3_ := Aside0.mk (below_step (by repeat (first | (with_reducible first | exact HB.out | apply below_alloc | apply pw_below_drewN | apply below_drew1) | exact HB.out)) hb); clear HO12003; clear HO12006; clear HB; have HO12003 := n0_; have HO12006 := n1_; have HO12011 := n2_; have HB := n3_; clear n0_ n1_ n2_ n3_; (try clear hb); (try clear hb2); (try clear hk); (try clear hi); (try clear ho0); obtain ⟨Ao36, co36, eo36⟩ := Kd.R_slice HO12011.out; subst eo36) | ((with_reducible refine gate_callee (f := 19) rfl ?_); refine goesL_ (some 18) rfl rfl Tryd.func19 (by kernel_rfl) rfl #[.slice Ao36 t12007.length co36, .int .i64 t12008, .string (⟨#[100, 105, 115, 107]⟩ : ByteArray), .slice none 0 0] rfl (by (try simp only [List.map_toArray, List.map_cons, List.map_nil]); first | done | rfl | (simp only [List.length_drop, List.length_take]; rfl)) ?_; (refine (tree_Add.calls _ _ t12007 t12008 (⟨#[100, 105, 115, 107]⟩ : ByteArray) _ _ ([] : List Int) t12012 t12013 t12014 _ ?side1 ?side2 ?side3 ?side4 A3.out).mono ?_); (case side1 => repeat (first | exact (Kd.R_reads' HO12011.out).2.2 | (with_reducible refine Kd.C_alloc ?_ _) | (with_reducible refine Kd.C_drewN ?_ _) | (with_reducible refine Kd.C_drew ?_))); (case side2 => exact (Kd.R_reads' HO12011.out).2.1); (case side3 => exact Kd.C_nil _ _); (case side4 => exact Nat.le_refl _); rintro e w37 ⟨v12015, rfl, ho0, hb⟩; refine ⟨_, rfl, ?_⟩; have n0_ := Aside0.mk (Kd.R_elder' (by (with_reducible repeat (first | apply Kd.R_alloc | apply Kd.R_drewN | apply Kd.R_drew)); exact HO12003.out) (Kd.R_base ho0) hb); have n1_ := Aside0.mk (Kd.R_below (by (with_reducible repeat (first | apply Kd.R_alloc | apply Kd.R_drewN | apply Kd.R_drew)); exact HO12006.out) hb); have n2_ := Aside0.mk (Kd.R_elder' (by (with_reducible repeat (first | apply Kd.R_alloc | apply Kd.R_drewN | apply Kd.R_drew)); exact HO12011.out) (Kd.R_base ho0) hb); have n3_ := Aside0.mk (Kd.R_lower (Kd.R_new' (Kd.R_new' (Kd.R_new' ho0 (Kd.R_lt (by (with_reducible repeat (first | apply Kd.R_alloc | apply Kd.R_drewN | apply Kd.R_drew)); exact HO12003.out))) (Kd.R_lt (by (with_reducible repeat (first | apply Kd.R_alloc | apply Kd.R_drewN | apply Kd.R_drew)); exact HO12006.out))) (Kd.R_lt (by (with_reducible repeat (first | apply Kd.R_alloc | apply Kd.R_drewN | apply Kd.R_drew)); exact HO12011.out))) (below_size (by repeat (first | (with_reducible first | exact HB.out | apply below_alloc | apply pw_below_drewN | apply below_drew1) | exact HB.out)))); have n4_ := Aside0.mk (below_step (by repeat (first | (with_reducible first | exact HB.out | apply below_alloc | apply pw_below_drewN | apply below_drew1) | exact HB.out)) hb); clear HO12003; clear HO12006; clear HO12011; clear HB; have HO12003 := n0_; have HO12006 := n1_; have HO12011 := n2_; have HO12016 := n3_; have HB := n4_; clear n0_ n1_ n2_ n3_ n4_; (try clear hb); (try clear hb2); (try clear hk); (try clear hi); (try clear ho0); obtain ⟨Ao38, co38, eo38⟩ := Kd.R_slice HO12016.out; subst eo38) | ((with_reducible refine gate_callee (f := 23) rfl ?_); refine goesL_ (some 25) rfl rfl Tryd.func23 (by kernel_rfl) rfl #[.slice Ao38 t12012.length co38, .int .i64 t12013] rfl (by (try simp only [List.map_toArray, List.map_cons, List.map_nil]); first | done | rfl | (simp only [List.length_drop, List.length_take]; rfl)) ?_; (with_reducible refine (tree_Path.calls _ _ t12012 t12013 t12017 t12018 _ (QB.Tabs.below ht (by repeat (first | (with_reducible first | exact HB.out | apply below_alloc | apply pw_below_drewN | apply below_drew1 | refine below_set ?_ (Aside0.out (by assumption))) | exact HB.out))) ?side1 ?side2 A4.out).mono ?_); (case side1 => repeat (first | exact (Kd.R_reads' HO12016.out).2.2 | (with_reducible refine Kd.C_alloc ?_ _) | (with_reducible refine Kd.C_drewN ?_ _) | (with_reducible refine Kd.C_drew ?_))); (case side2 => exact (Kd.R_reads' HO12016.out).2.1); rintro e w39 ⟨rfl, hb⟩; refine ⟨_, rfl, ?_⟩; have n0_ := Aside0.mk (Kd.R_below (by (with_reducible repeat (first | apply Kd.R_alloc | apply Kd.R_drewN | apply Kd.R_drew)); exact HO12003.out) hb); have n1_ := Aside0.mk (Kd.R_below (by (with_reducible repeat (first | apply Kd.R_alloc | apply Kd.R_drewN | apply Kd.R_drew)); exact HO12006.out) hb); have n2_ := Aside0.mk (Kd.R_below (by (with_reducible repeat (first | apply Kd.R_alloc | apply Kd.R_drewN | apply Kd.R_drew)); exact HO12011.out) hb); have n3_ := Aside0.mk (Kd.R_below (by (with_reducible repeat (first | apply Kd.R_alloc | apply Kd.R_drewN | apply Kd.R_drew)); exact HO12016.out) hb); have n4_ := Aside0.mk (below_step (by repeat (first | (with_reducible first | exact HB.out | apply below_alloc | apply pw_below_drewN | apply below_drew1) | exact HB.out)) hb); clear HO12003; clear HO12006; clear HO12011; clear HO12016; clear HB; have HO12003 := n0_; have HO12006 := n1_; have HO12011 := n2_; have HO12016 := n3_; have HB := n4_; clear n0_ n1_ n2_ n3_ n4_; (try clear hb); (try clear hb2); (try clear hk); (try clear hi)))
          go_ret
          exact ⟨by first | rfl | (simp [errW_none, errW_some] <;> rfl) | (simp [*, errW_none, errW_some] <;> rfl), by repeat (first | (with_reducible first | exact HB.out | apply below_alloc | apply pw_below_drewN | apply below_drew1) | exact HB.out)⟩
      · rw [if_neg c7] at H
        have c7b0 : (t12008 == 1) = false := beq_eq_false_iff_ne.mpr c7
        have c7b1 : (t12008 != 1) = true := bne_iff_ne.mpr c7
        obtain rfl := Option.some.inj H
        go_enter Tryd.func11, Tryd.ntmps11
        go_wp2_with (first | ((with_reducible refine gate_callee (f := 16) rfl ?_); refine goesL_ (some 9) rfl rfl Tryd.func16 (by kernel_rfl) rfl #[] rfl (by (try simp only [List.map_toArray, List.map_cons, List.map_nil]); first | done | rfl | (simp only [List.length_drop, List.length_take]; rfl)) ?_; (with_reducible refine (tree_New.calls  t12001 _ A1.out).mono ?_); rintro e w40 ⟨v12002, rfl, ho0, hb⟩; refine ⟨_, rfl, ?_⟩; have n0_ := Aside0.mk (Kd.R_lower ho0 (below_size (by repeat (first | (with_reducible first | exact HB.out | apply below_alloc | apply pw_below_drewN | apply below_drew1) | exact HB.out)))); have n1_ := Aside0.mk (below_step (by repeat (first | (with_reducible first | exact HB.out | apply below_alloc | apply pw_below_drewN | apply below_drew1) | exact HB.out)) hb); clear HB; have HO12003 := n0_; have HB := n1_; clear n0_ n1_; (try clear hb); (try clear hb2); (try clear hk); (try clear hi); (try clear ho0)) | ((with_reducible refine gate_dst (N := 10) rfl ?_); refine Kd.R_lit (Kd.int .u32) _ 66 ?hg (N := 10) ?hd (xs := ([31] : List Int)) (inner := [.int .u32 31]) (ok := fun _ => True) (okp := fun _ => True) ?hr ?hp (fun _ hk => hk) trivial (Below.refl _ _) (Nat.le_refl _) (by simp) ?_; (case hd => rfl); (case hg => rfl); (case hr => first | (go_simp; done) | (go_simp; rfl)); (case hp => exact (Reps.one (show Kd.M (Kd.int .u32) _ _ _ 31 [.int .u32 31] from rfl) (Reps.none _ _))); intro v12005 w41 ho42 hb hg_ hnew_; clear hg_ hnew_; (first | rw [← Ny12004.out] at ho42 | (simp only [Int.reduceToNat] at ho42; rw [← Ny12004.out] at ho42)); have n0_ := Aside0.mk (Kd.R_elder' (by (with_reducible repeat (first | apply Kd.R_alloc | apply Kd.R_drewN | apply Kd.R_drew)); exact HO12003.out) (Kd.R_base ho42) hb); have n1_ := Aside0.mk (Kd.R_lower ho42 (below_size (by repeat (first | (with_reducible first | exact HB.out | apply below_alloc | apply pw_below_drewN | apply below_drew1) | exact HB.out)))); have n2_ := Aside0.mk (below_step (by repeat (first | (with_reducible first | exact HB.out | apply below_alloc | apply pw_below_drewN | apply below_drew1) | exact HB.out)) hb); clear HO12003; clear HB; have HO12003 := n0_; have HO12006 := n1_; have HB := n2_; clear n0_ n1_ n2_; clear hb ho42; obtain ⟨Ao43, co43, eo43⟩ := Kd.R_slice HO12003.out; subst eo43; obtain ⟨Ao44, co44, eo44⟩ := Kd.R_slice HO12006.out; subst eo44) | ((with_reducible refine gate_callee (f := 19) rfl ?_); refine goesL_ (some 11) rfl rfl Tryd.func19 (by kernel_rfl) rfl #[.slice Ao43 t12001.length co43, .int .i64 0, .string (⟨#[112, 99, 105]⟩ : ByteArray), .slice Ao44 y12004.length co44] rfl (by (try simp only [List.map_toArray, List.map_cons, List.map_nil]); first | done | rfl | (simp only [List.length_drop, List.length_take]; rfl)) ?_; (with_reducible refine (tree_Add.calls _ _ t12001 0 (⟨#[112, 99, 105]⟩ : ByteArray) _ _ y12004 t12007 t12008 t12009 _ ?side1 ?side2 ?side3 ?side4 A2.out).mono ?_); (case side1 => repeat (first | exact (Kd.R_reads' HO12003.out).2.2 | (with_reducible refine Kd.C_alloc ?_ _) | (with_reducible refine Kd.C_drewN ?_ _) | (with_reducible refine Kd.C_drew ?_))); (case side2 => exact (Kd.R_reads' HO12003.out).2.1); (case side3 => repeat (first | exact (Kd.R_reads' HO12006.out).2.2 | (with_reducible refine Kd.C_alloc ?_ _) | (with_reducible refine Kd.C_drewN ?_ _) | (with_reducible refine Kd.C_drew ?_))); (case side4 => exact (Kd.R_reads' HO12006.out).2.1); rintro e w45 ⟨v12010, rfl, ho0, hb⟩; refine ⟨_, rfl, ?_⟩; have n0_ := Aside0.mk (Kd.R_elder' (by (with_reducible repeat (first | apply Kd.R_alloc | apply Kd.R_drewN | apply Kd.R_drew)); exact HO12003.out) (Kd.R_base ho0) hb); have n1_ := Aside0.mk (Kd.R_below (by (with_reducible repeat (first | apply Kd.R_alloc | apply Kd.R_drewN | apply Kd.R_drew)); exact HO12006.out) hb); have n2_ := Aside0.mk (Kd.R_lower (Kd.R_new' (Kd.R_new' ho0 (Kd.R_lt (by (with_reducible repeat (first | apply Kd.R_alloc | apply Kd.R_drewN | apply Kd.R_drew)); exact HO12003.out))) (Kd.R_lt (by (with_reducible repeat (first | apply Kd.R_alloc | apply Kd.R_drewN | apply Kd.R_drew)); exact HO12006.out))) (below_size (by repeat (first | (with_reducible first | exact HB.out | apply below_alloc | apply pw_below_drewN | apply below_drew1) | exact HB.out)))); have n3_ := Aside0.mk (below_step (by repeat (first | (with_reducible first | exact HB.out | apply below_alloc | apply pw_below_drewN | apply below_drew1) | exact HB.out)) hb); clear HO12003; clear HO12006; clear HB; have HO12003 := n0_; have HO12006 := n1_; have HO12011 := n2_; have HB := n3_; clear n0_ n1_ n2_ n3_; (try clear hb); (try clear hb2); (try clear hk); (try clear hi); (try clear ho0); obtain ⟨Ao46, co46, eo46⟩ := Kd.R_slice HO12011.out; subst eo46) | ((with_reducible refine gate_callee (f := 19) rfl ?_); refine goesL_ (some 18) rfl rfl Tryd.func19 (by kernel_rfl) rfl #[.slice Ao46 t12007.length co46, .int .i64 t12008, .string (⟨#[100, 105, 115, 107]⟩ : ByteArray), .slice none 0 0] rfl (by (try simp only [List.map_toArray, List.map_cons, List.map_nil]); first | done | rfl | (simp only [List.length_drop, List.length_take]; rfl)) ?_; (refine (tree_Add.calls _ _ t12007 t12008 (⟨#[100, 105, 115, 107]⟩ : ByteArray) _ _ ([] : List Int) t12012 t12013 t12014 _ ?side1 ?side2 ?side3 ?side4 A3.out).mono ?_); (case side1 => repeat (first | exact (Kd.R_reads' HO12011.out).2.2 | (with_reducible refine Kd.C_alloc ?_ _) | (with_reducible refine Kd.C_drewN ?_ _) | (with_reducible refine Kd.C_drew ?_))); (case side2 => exact (Kd.R_reads' HO12011.out).2.1); (case side3 => exact Kd.C_nil _ _); (case side4 => exact Nat.le_refl _); rintro e w47 ⟨v12015, rfl, ho0, hb⟩; refine ⟨_, rfl, ?_⟩; have n0_ := Aside0.mk (Kd.R_elder' (by (with_reducible repeat (first | apply Kd.R_alloc | apply Kd.R_drewN | apply Kd.R_drew)); exact HO12003.out) (Kd.R_base ho0) hb); have n1_ := Aside0.mk (Kd.R_below (by (with_reducible repeat (first | apply Kd.R_alloc | apply Kd.R_drewN | apply Kd.R_drew)); exact HO12006.out) hb); have n2_ := Aside0.mk (Kd.R_elder' (by (with_reducible repeat (first | apply Kd.R_alloc | apply Kd.R_drewN | apply Kd.R_drew)); exact HO12011.out) (Kd.R_base ho0) hb); have n3_ := Aside0.mk (Kd.R_lower (Kd.R_new' (Kd.R_new' (Kd.R_new' ho0 (Kd.R_lt (by (with_reducible repeat (first | apply Kd.R_alloc | apply Kd.R_drewN | apply Kd.R_drew)); exact HO12003.out))) (Kd.R_lt (by (with_reducible repeat (first | apply Kd.R_alloc | apply Kd.R_drewN | apply Kd.R_drew)); exact HO12006.out))) (Kd.R_lt (by (with_reducible repeat (first | apply Kd.R_alloc | apply Kd.R_drewN | apply Kd.R_drew)); exact HO12011.out))) (below_size (by repeat (first | (with_reducible first | exact HB.out | apply below_alloc | apply pw_below_drewN | apply below_drew1) | exact HB.out)))); have n4_ := Aside0.mk (below_step (by repeat (first | (with_reducible first | exact HB.out | apply below_alloc | apply pw_below_drewN | apply below_drew1) | exact HB.out)) hb); clear HO12003; clear HO12006; clear HO12011; clear HB; have HO12003 := n0_; have HO12006 := n1_; have HO12011 := n2_; have HO12016 := n3_; have HB := n4_; clear n0_ n1_ n2_ n3_ n4_; (try clear hb); (try clear hb2); (try clear hk); (try clear hi); (try clear ho0); obtain ⟨Ao48, co48, eo48⟩ := Kd.R_slice HO12016.out; subst eo48) | ((with_reducible refine gate_callee (f := 23) rfl ?_); refine goesL_ (some 25) rfl rfl Tryd.func23 (by kernel_rfl) rfl #[.slice Ao48 t12012.length co48, .int .i64 t12013] rfl (by (try simp only [List.map_toArray, List.map_cons, List.map_nil]); first | done | rfl | (simp only [List.length_drop, List.length_take]; rfl)) ?_; (with_reducible refine (tree_Path.calls _ _ t12012 t12013 t12017 t12018 _ (QB.Tabs.below ht (by repeat (first | (with_reducible first | exact HB.out | apply below_alloc | apply pw_below_drewN | apply below_drew1 | refine below_set ?_ (Aside0.out (by assumption))) | exact HB.out))) ?side1 ?side2 A4.out).mono ?_); (case side1 => repeat (first | exact (Kd.R_reads' HO12016.out).2.2 | (with_reducible refine Kd.C_alloc ?_ _) | (with_reducible refine Kd.C_drewN ?_ _) | (with_reducible refine Kd.C_drew ?_))); (case side2 => exact (Kd.R_reads' HO12016.out).2.1); rintro e w49 ⟨rfl, hb⟩; refine ⟨_, rfl, ?_⟩; have n0_ := Aside0.mk (Kd.R_below (by (with_reducible repeat (first | apply Kd.R_alloc | apply Kd.R_drewN | apply Kd.R_drew)); exact HO12003.out) hb); have n1_ := Aside0.mk (Kd.R_below (by (with_reducible repeat (first | apply Kd.R_alloc | apply Kd.R_drewN | apply Kd.R_drew)); exact HO12006.out) hb); have n2_ := Aside0.mk (Kd.R_below (by (with_reducible repeat (first | apply Kd.R_alloc | apply Kd.R_drewN | apply Kd.R_drew)); exact HO12011.out) hb); have n3_ := Aside0.mk (Kd.R_below (by (with_reducible repeat (first | apply Kd.R_alloc | apply Kd.R_drewN | apply Kd.R_drew)); exact HO12016.out) hb); have n4_ := Aside0.mk (below_step (by repeat (first | (with_reducible first | exact HB.out | apply below_alloc | apply pw_below_drewN | apply below_drew1) | exact HB.out)) hb); clear HO12003; clear HO12006; clear HO12011; clear HO12016; clear HB; have HO12003 := n0_; have HO12006 := n1_; have HO12011 := n2_; have HO12016 := n3_; have HB := n4_; clear n0_ n1_ n2_ n3_ n4_; (try clear hb); (try clear hb2); (try clear hk); (try clear hi)))
        go_ret
        exact ⟨by first | rfl | (simp [errW_none, errW_some] <;> rfl) | (simp [*, errW_none, errW_some] <;> rfl), by repeat (first | (with_reducible first | exact HB.out | apply below_alloc | apply pw_below_drewN | apply below_drew1) | exact HB.out)⟩
    · rw [if_neg c6] at H
      have c6b0 : (t12014 == 0) = false := beq_eq_false_iff_ne.mpr c6
      have c6b1 : (t12014 != 0) = true := bne_iff_ne.mpr c6
      obtain rfl := Option.some.inj H
      go_enter Tryd.func11, Tryd.ntmps11
      go_wp2_with (first | ((with_reducible refine gate_callee (f := 16) rfl ?_); refine goesL_ (some 9) rfl rfl Tryd.func16 (by kernel_rfl) rfl #[] rfl (by (try simp only [List.map_toArray, List.map_cons, List.map_nil]); first | done | rfl | (simp only [List.length_drop, List.length_take]; rfl)) ?_; (with_reducible refine (tree_New.calls  t12001 _ A1.out).mono ?_); rintro e w50 ⟨v12002, rfl, ho0, hb⟩; refine ⟨_, rfl, ?_⟩; have n0_ := Aside0.mk (Kd.R_lower ho0 (below_size (by repeat (first | (with_reducible first | exact HB.out | apply below_alloc | apply pw_below_drewN | apply below_drew1) | exact HB.out)))); have n1_ := Aside0.mk (below_step (by repeat (first | (with_reducible first | exact HB.out | apply below_alloc | apply pw_below_drewN | apply below_drew1) | exact HB.out)) hb); clear HB; have HO12003 := n0_; have HB := n1_; clear n0_ n1_; (try clear hb); (try clear hb2); (try clear hk); (try clear hi); (try clear ho0)) | ((with_reducible refine gate_dst (N := 10) rfl ?_); refine Kd.R_lit (Kd.int .u32) _ 66 ?hg (N := 10) ?hd (xs := ([31] : List Int)) (inner := [.int .u32 31]) (ok := fun _ => True) (okp := fun _ => True) ?hr ?hp (fun _ hk => hk) trivial (Below.refl _ _) (Nat.le_refl _) (by simp) ?_; (case hd => rfl); (case hg => rfl); (case hr => first | (go_simp; done) | (go_simp; rfl)); (case hp => exact (Reps.one (show Kd.M (Kd.int .u32) _ _ _ 31 [.int .u32 31] from rfl) (Reps.none _ _))); intro v12005 w51 ho52 hb hg_ hnew_; clear hg_ hnew_; (first | rw [← Ny12004.out] at ho52 | (simp only [Int.reduceToNat] at ho52; rw [← Ny12004.out] at ho52)); have n0_ := Aside0.mk (Kd.R_elder' (by (with_reducible repeat (first | apply Kd.R_alloc | apply Kd.R_drewN | apply Kd.R_drew)); exact HO12003.out) (Kd.R_base ho52) hb); have n1_ := Aside0.mk (Kd.R_lower ho52 (below_size (by repeat (first | (with_reducible first | exact HB.out | apply below_alloc | apply pw_below_drewN | apply below_drew1) | exact HB.out)))); have n2_ := Aside0.mk (below_step (by repeat (first | (with_reducible first | exact HB.out | apply below_alloc | apply pw_below_drewN | apply below_drew1) | exact HB.out)) hb); clear HO12003; clear HB; have HO12003 := n0_; have HO12006 := n1_; have HB := n2_; clear n0_ n1_ n2_; clear hb ho52; obtain ⟨Ao53, co53, eo53⟩ := Kd.R_slice HO12003.out; subst eo53; obtain ⟨Ao54, co54, eo54⟩ := Kd.R_slice HO12006.out; subst eo54) | ((with_reducible refine gate_callee (f := 19) rfl ?_); refine goesL_ (some 11) rfl rfl Tryd.func19 (by kernel_rfl) rfl #[.slice Ao53 t12001.length co53, .int .i64 0, .string (⟨#[112, 99, 105]⟩ : ByteArray), .slice Ao54 y12004.length co54] rfl (by (try simp only [List.map_toArray, List.map_cons, List.map_nil]); first | done | rfl | (simp only [List.length_drop, List.length_take]; rfl)) ?_; (with_reducible refine (tree_Add.calls _ _ t12001 0 (⟨#[112, 99, 105]⟩ : ByteArray) _ _ y12004 t12007 t12008 t12009 _ ?side1 ?side2 ?side3 ?side4 A2.out).mono ?_); (case side1 => repeat (first | exact (Kd.R_reads' HO12003.out).2.2 | (with_reducible refine Kd.C_alloc ?_ _) | (with_reducible refine Kd.C_drewN ?_ _) | (with_reducible refine Kd.C_drew ?_))); (case side2 => exact (Kd.R_reads' HO12003.out).2.1); (case side3 => repeat (first | exact (Kd.R_reads' HO12006.out).2.2 | (with_reducible refine Kd.C_alloc ?_ _) | (with_reducible refine Kd.C_drewN ?_ _) | (with_reducible refine Kd.C_drew ?_))); (case side4 => exact (Kd.R_reads' HO12006.out).2.1); rintro e w55 ⟨v12010, rfl, ho0, hb⟩; refine ⟨_, rfl, ?_⟩; have n0_ := Aside0.mk (Kd.R_elder' (by (with_reducible repeat (first | apply Kd.R_alloc | apply Kd.R_drewN | apply Kd.R_drew)); exact HO12003.out) (Kd.R_base ho0) hb); have n1_ := Aside0.mk (Kd.R_below (by (with_reducible repeat (first | apply Kd.R_alloc | apply Kd.R_drewN | apply Kd.R_drew)); exact HO12006.out) hb); have n2_ := Aside0.mk (Kd.R_lower (Kd.R_new' (Kd.R_new' ho0 (Kd.R_lt (by (with_reducible repeat (first | apply Kd.R_alloc | apply Kd.R_drewN | apply Kd.R_drew)); exact HO12003.out))) (Kd.R_lt (by (with_reducible repeat (first | apply Kd.R_alloc | apply Kd.R_drewN | apply Kd.R_drew)); exact HO12006.out))) (below_size (by repeat (first | (with_reducible first | exact HB.out | apply below_alloc | apply pw_below_drewN | apply below_drew1) | exact HB.out)))); have n3_ := Aside0.mk (below_step (by repeat (first | (with_reducible first | exact HB.out | apply below_alloc | apply pw_below_drewN | apply below_drew1) | exact HB.out)) hb); clear HO12003; clear HO12006; clear HB; have HO12003 := n0_; have HO12006 := n1_; have HO12011 := n2_; have HB := n3_; clear n0_ n1_ n2_ n3_; (try clear hb); (try clear hb2); (try clear hk); (try clear hi); (try clear ho0); obtain ⟨Ao56, co56, eo56⟩ := Kd.R_slice HO12011.out; subst eo56) | ((with_reducible refine gate_callee (f := 19) rfl ?_); refine goesL_ (some 18) rfl rfl Tryd.func19 (by kernel_rfl) rfl #[.slice Ao56 t12007.length co56, .int .i64 t12008, .string (⟨#[100, 105, 115, 107]⟩ : ByteArray), .slice none 0 0] rfl (by (try simp only [List.map_toArray, List.map_cons, List.map_nil]); first | done | rfl | (simp only [List.length_drop, List.length_take]; rfl)) ?_; (refine (tree_Add.calls _ _ t12007 t12008 (⟨#[100, 105, 115, 107]⟩ : ByteArray) _ _ ([] : List Int) t12012 t12013 t12014 _ ?side1 ?side2 ?side3 ?side4 A3.out).mono ?_); (case side1 => repeat (first | exact (Kd.R_reads' HO12011.out).2.2 | (with_reducible refine Kd.C_alloc ?_ _) | (with_reducible refine Kd.C_drewN ?_ _) | (with_reducible refine Kd.C_drew ?_))); (case side2 => exact (Kd.R_reads' HO12011.out).2.1); (case side3 => exact Kd.C_nil _ _); (case side4 => exact Nat.le_refl _); rintro e w57 ⟨v12015, rfl, ho0, hb⟩; refine ⟨_, rfl, ?_⟩; have n0_ := Aside0.mk (Kd.R_elder' (by (with_reducible repeat (first | apply Kd.R_alloc | apply Kd.R_drewN | apply Kd.R_drew)); exact HO12003.out) (Kd.R_base ho0) hb); have n1_ := Aside0.mk (Kd.R_below (by (with_reducible repeat (first | apply Kd.R_alloc | apply Kd.R_drewN | apply Kd.R_drew)); exact HO12006.out) hb); have n2_ := Aside0.mk (Kd.R_elder' (by (with_reducible repeat (first | apply Kd.R_alloc | apply Kd.R_drewN | apply Kd.R_drew)); exact HO12011.out) (Kd.R_base ho0) hb); have n3_ := Aside0.mk (Kd.R_lower (Kd.R_new' (Kd.R_new' (Kd.R_new' ho0 (Kd.R_lt (by (with_reducible repeat (first | apply Kd.R_alloc | apply Kd.R_drewN | apply Kd.R_drew)); exact HO12003.out))) (Kd.R_lt (by (with_reducible repeat (first | apply Kd.R_alloc | apply Kd.R_drewN | apply Kd.R_drew)); exact HO12006.out))) (Kd.R_lt (by (with_reducible repeat (first | apply Kd.R_alloc | apply Kd.R_drewN | apply Kd.R_drew)); exact HO12011.out))) (below_size (by repeat (first | (with_reducible first | exact HB.out | apply below_alloc | apply pw_below_drewN | apply below_drew1) | exact HB.out)))); have n4_ := Aside0.mk (below_step (by repeat (first | (with_reducible first | exact HB.out | apply below_alloc | apply pw_below_drewN | apply below_drew1) | exact HB.out)) hb); clear HO12003; clear HO12006; clear HO12011; clear HB; have HO12003 := n0_; have HO12006 := n1_; have HO12011 := n2_; have HO12016 := n3_; have HB := n4_; clear n0_ n1_ n2_ n3_ n4_; (try clear hb); (try clear hb2); (try clear hk); (try clear hi); (try clear ho0); obtain ⟨Ao58, co58, eo58⟩ := Kd.R_slice HO12016.out; subst eo58) | ((with_reducible refine gate_callee (f := 23) rfl ?_); refine goesL_ (some 25) rfl rfl Tryd.func23 (by kernel_rfl) rfl #[.slice Ao58 t12012.length co58, .int .i64 t12013] rfl (by (try simp only [List.map_toArray, List.map_cons, List.map_nil]); first | done | rfl | (simp only [List.length_drop, List.length_take]; rfl)) ?_; (with_reducible refine (tree_Path.calls _ _ t12012 t12013 t12017 t12018 _ (QB.Tabs.below ht (by repeat (first | (with_reducible first | exact HB.out | apply below_alloc | apply pw_below_drewN | apply below_drew1 | refine below_set ?_ (Aside0.out (by assumption))) | exact HB.out))) ?side1 ?side2 A4.out).mono ?_); (case side1 => repeat (first | exact (Kd.R_reads' HO12016.out).2.2 | (with_reducible refine Kd.C_alloc ?_ _) | (with_reducible refine Kd.C_drewN ?_ _) | (with_reducible refine Kd.C_drew ?_))); (case side2 => exact (Kd.R_reads' HO12016.out).2.1); rintro e w59 ⟨rfl, hb⟩; refine ⟨_, rfl, ?_⟩; have n0_ := Aside0.mk (Kd.R_below (by (with_reducible repeat (first | apply Kd.R_alloc | apply Kd.R_drewN | apply Kd.R_drew)); exact HO12003.out) hb); have n1_ := Aside0.mk (Kd.R_below (by (with_reducible repeat (first | apply Kd.R_alloc | apply Kd.R_drewN | apply Kd.R_drew)); exact HO12006.out) hb); have n2_ := Aside0.mk (Kd.R_below (by (with_reducible repeat (first | apply Kd.R_alloc | apply Kd.R_drewN | apply Kd.R_drew)); exact HO12011.out) hb); have n3_ := Aside0.mk (Kd.R_below (by (with_reducible repeat (first | apply Kd.R_alloc | apply Kd.R_drewN | apply Kd.R_drew)); exact HO12016.out) hb); have n4_ := Aside0.mk (below_step (by repeat (first | (with_reducible first | exact HB.out | apply below_alloc | apply pw_below_drewN | apply below_drew1) | exact HB.out)) hb); clear HO12003; clear HO12006; clear HO12011; clear HO12016; clear HB; have HO12003 := n0_; have HO12006 := n1_; have HO12011 := n2_; have HO12016 := n3_; have HB := n4_; clear n0_ n1_ n2_ n3_ n4_; (try clear hb); (try clear hb2); (try clear hk); (try clear hi)))
      go_ret
      exact ⟨by first | rfl | (simp [errW_none, errW_some] <;> rfl) | (simp [*, errW_none, errW_some] <;> rfl), by repeat (first | (with_reducible first | exact HB.out | apply below_alloc | apply pw_below_drewN | apply below_drew1) | exact HB.out)⟩
  · rw [if_neg c5] at H
    have c5b0 : (t12009 == 0) = false := beq_eq_false_iff_ne.mpr c5
    have c5b1 : (t12009 != 0) = true := bne_iff_ne.mpr c5
    obtain rfl := Option.some.inj H
    go_enter Tryd.func11, Tryd.ntmps11
    go_wp2_with (first | ((with_reducible refine gate_callee (f := 16) rfl ?_); refine goesL_ (some 9) rfl rfl Tryd.func16 (by kernel_rfl) rfl #[] rfl (by (try simp only [List.map_toArray, List.map_cons, List.map_nil]); first | done | rfl | (simp only [List.length_drop, List.length_take]; rfl)) ?_; (with_reducible refine (tree_New.calls  t12001 _ A1.out).mono ?_); rintro e w60 ⟨v12002, rfl, ho0, hb⟩; refine ⟨_, rfl, ?_⟩; have n0_ := Aside0.mk (Kd.R_lower ho0 (below_size (by repeat (first | (with_reducible first | exact HB.out | apply below_alloc | apply pw_below_drewN | apply below_drew1) | exact HB.out)))); have n1_ := Aside0.mk (below_step (by repeat (first | (with_reducible first | exact HB.out | apply below_alloc | apply pw_below_drewN | apply below_drew1) | exact HB.out)) hb); clear HB; have HO12003 := n0_; have HB := n1_; clear n0_ n1_; (try clear hb); (try clear hb2); (try clear hk); (try clear hi); (try clear ho0)) | ((with_reducible refine gate_dst (N := 10) rfl ?_); refine Kd.R_lit (Kd.int .u32) _ 66 ?hg (N := 10) ?hd (xs := ([31] : List Int)) (inner := [.int .u32 31]) (ok := fun _ => True) (okp := fun _ => True) ?hr ?hp (fun _ hk => hk) trivial (Below.refl _ _) (Nat.le_refl _) (by simp) ?_; (case hd => rfl); (case hg => rfl); (case hr => first | (go_simp; done) | (go_simp; rfl)); (case hp => exact (Reps.one (show Kd.M (Kd.int .u32) _ _ _ 31 [.int .u32 31] from rfl) (Reps.none _ _))); intro v12005 w61 ho62 hb hg_ hnew_; clear hg_ hnew_; (first | rw [← Ny12004.out] at ho62 | (simp only [Int.reduceToNat] at ho62; rw [← Ny12004.out] at ho62)); have n0_ := Aside0.mk (Kd.R_elder' (by (with_reducible repeat (first | apply Kd.R_alloc | apply Kd.R_drewN | apply Kd.R_drew)); exact HO12003.out) (Kd.R_base ho62) hb); have n1_ := Aside0.mk (Kd.R_lower ho62 (below_size (by repeat (first | (with_reducible first | exact HB.out | apply below_alloc | apply pw_below_drewN | apply below_drew1) | exact HB.out)))); have n2_ := Aside0.mk (below_step (by repeat (first | (with_reducible first | exact HB.out | apply below_alloc | apply pw_below_drewN | apply below_drew1) | exact HB.out)) hb); clear HO12003; clear HB; have HO12003 := n0_; have HO12006 := n1_; have HB := n2_; clear n0_ n1_ n2_; clear hb ho62; obtain ⟨Ao63, co63, eo63⟩ := Kd.R_slice HO12003.out; subst eo63; obtain ⟨Ao64, co64, eo64⟩ := Kd.R_slice HO12006.out; subst eo64) | ((with_reducible refine gate_callee (f := 19) rfl ?_); refine goesL_ (some 11) rfl rfl Tryd.func19 (by kernel_rfl) rfl #[.slice Ao63 t12001.length co63, .int .i64 0, .string (⟨#[112, 99, 105]⟩ : ByteArray), .slice Ao64 y12004.length co64] rfl (by (try simp only [List.map_toArray, List.map_cons, List.map_nil]); first | done | rfl | (simp only [List.length_drop, List.length_take]; rfl)) ?_; (with_reducible refine (tree_Add.calls _ _ t12001 0 (⟨#[112, 99, 105]⟩ : ByteArray) _ _ y12004 t12007 t12008 t12009 _ ?side1 ?side2 ?side3 ?side4 A2.out).mono ?_); (case side1 => repeat (first | exact (Kd.R_reads' HO12003.out).2.2 | (with_reducible refine Kd.C_alloc ?_ _) | (with_reducible refine Kd.C_drewN ?_ _) | (with_reducible refine Kd.C_drew ?_))); (case side2 => exact (Kd.R_reads' HO12003.out).2.1); (case side3 => repeat (first | exact (Kd.R_reads' HO12006.out).2.2 | (with_reducible refine Kd.C_alloc ?_ _) | (with_reducible refine Kd.C_drewN ?_ _) | (with_reducible refine Kd.C_drew ?_))); (case side4 => exact (Kd.R_reads' HO12006.out).2.1); rintro e w65 ⟨v12010, rfl, ho0, hb⟩; refine ⟨_, rfl, ?_⟩; have n0_ := Aside0.mk (Kd.R_elder' (by (with_reducible repeat (first | apply Kd.R_alloc | apply Kd.R_drewN | apply Kd.R_drew)); exact HO12003.out) (Kd.R_base ho0) hb); have n1_ := Aside0.mk (Kd.R_below (by (with_reducible repeat (first | apply Kd.R_alloc | apply Kd.R_drewN | apply Kd.R_drew)); exact HO12006.out) hb); have n2_ := Aside0.mk (Kd.R_lower (Kd.R_new' (Kd.R_new' ho0 (Kd.R_lt (by (with_reducible repeat (first | apply Kd.R_alloc | apply Kd.R_drewN | apply Kd.R_drew)); exact HO12003.out))) (Kd.R_lt (by (with_reducible repeat (first | apply Kd.R_alloc | apply Kd.R_drewN | apply Kd.R_drew)); exact HO12006.out))) (below_size (by repeat (first | (with_reducible first | exact HB.out | apply below_alloc | apply pw_below_drewN | apply below_drew1) | exact HB.out)))); have n3_ := Aside0.mk (below_step (by repeat (first | (with_reducible first | exact HB.out | apply below_alloc | apply pw_below_drewN | apply below_drew1) | exact HB.out)) hb); clear HO12003; clear HO12006; clear HB; have HO12003 := n0_; have HO12006 := n1_; have HO12011 := n2_; have HB := n3_; clear n0_ n1_ n2_ n3_; (try clear hb); (try clear hb2); (try clear hk); (try clear hi); (try clear ho0); obtain ⟨Ao66, co66, eo66⟩ := Kd.R_slice HO12011.out; subst eo66) | ((with_reducible refine gate_callee (f := 19) rfl ?_); refine goesL_ (some 18) rfl rfl Tryd.func19 (by kernel_rfl) rfl #[.slice Ao66 t12007.length co66, .int .i64 t12008, .string (⟨#[100, 105, 115, 107]⟩ : ByteArray), .slice none 0 0] rfl (by (try simp only [List.map_toArray, List.map_cons, List.map_nil]); first | done | rfl | (simp only [List.length_drop, List.length_take]; rfl)) ?_; (refine (tree_Add.calls _ _ t12007 t12008 (⟨#[100, 105, 115, 107]⟩ : ByteArray) _ _ ([] : List Int) t12012 t12013 t12014 _ ?side1 ?side2 ?side3 ?side4 A3.out).mono ?_); (case side1 => repeat (first | exact (Kd.R_reads' HO12011.out).2.2 | (with_reducible refine Kd.C_alloc ?_ _) | (with_reducible refine Kd.C_drewN ?_ _) | (with_reducible refine Kd.C_drew ?_))); (case side2 => exact (Kd.R_reads' HO12011.out).2.1); (case side3 => exact Kd.C_nil _ _); (case side4 => exact Nat.le_refl _); rintro e w67 ⟨v12015, rfl, ho0, hb⟩; refine ⟨_, rfl, ?_⟩; have n0_ := Aside0.mk (Kd.R_elder' (by (with_reducible repeat (first | apply Kd.R_alloc | apply Kd.R_drewN | apply Kd.R_drew)); exact HO12003.out) (Kd.R_base ho0) hb); have n1_ := Aside0.mk (Kd.R_below (by (with_reducible repeat (first | apply Kd.R_alloc | apply Kd.R_drewN | apply Kd.R_drew)); exact HO12006.out) hb); have n2_ := Aside0.mk (Kd.R_elder' (by (with_reducible repeat (first | apply Kd.R_alloc | apply Kd.R_drewN | apply Kd.R_drew)); exact HO12011.out) (Kd.R_base ho0) hb); have n3_ := Aside0.mk (Kd.R_lower (Kd.R_new' (Kd.R_new' (Kd.R_new' ho0 (Kd.R_lt (by (with_reducible repeat (first | apply Kd.R_alloc | apply Kd.R_drewN | apply Kd.R_drew)); exact HO12003.out))) (Kd.R_lt (by (with_reducible repeat (first | apply Kd.R_alloc | apply Kd.R_drewN | apply Kd.R_drew)); exact HO12006.out))) (Kd.R_lt (by (with_reducible repeat (first | apply Kd.R_alloc | apply Kd.R_drewN | apply Kd.R_drew)); exact HO12011.out))) (below_size (by repeat (first | (with_reducible first | exact HB.out | apply below_alloc | apply pw_below_drewN | apply below_drew1) | exact HB.out)))); have n4_ := Aside0.mk (below_step (by repeat (first | (with_reducible first | exact HB.out | apply below_alloc | apply pw_below_drewN | apply below_drew1) | exact HB.out)) hb); clear HO12003; clear HO12006; clear HO12011; clear HB; have HO12003 := n0_; have HO12006 := n1_; have HO12011 := n2_; have HO12016 := n3_; have HB := n4_; clear n0_ n1_ n2_ n3_ n4_; (try clear hb); (try clear hb2); (try clear hk); (try clear hi); (try clear ho0); obtain ⟨Ao68, co68, eo68⟩ := Kd.R_slice HO12016.out; subst eo68) | ((with_reducible refine gate_callee (f := 23) rfl ?_); refine goesL_ (some 25) rfl rfl Tryd.func23 (by kernel_rfl) rfl #[.slice Ao68 t12012.length co68, .int .i64 t12013] rfl (by (try simp only [List.map_toArray, List.map_cons, List.map_nil]); first | done | rfl | (simp only [List.length_drop, List.length_take]; rfl)) ?_; (with_reducible refine (tree_Path.calls _ _ t12012 t12013 t12017 t12018 _ (QB.Tabs.below ht (by repeat (first | (with_reducible first | exact HB.out | apply below_alloc | apply pw_below_drewN | apply below_drew1 | refine below_set ?_ (Aside0.out (by assumption))) | exact HB.out))) ?side1 ?side2 A4.out).mono ?_); (case side1 => repeat (first | exact (Kd.R_reads' HO12016.out).2.2 | (with_reducible refine Kd.C_alloc ?_ _) | (with_reducible refine Kd.C_drewN ?_ _) | (with_reducible refine Kd.C_drew ?_))); (case side2 => exact (Kd.R_reads' HO12016.out).2.1); rintro e w69 ⟨rfl, hb⟩; refine ⟨_, rfl, ?_⟩; have n0_ := Aside0.mk (Kd.R_below (by (with_reducible repeat (first | apply Kd.R_alloc | apply Kd.R_drewN | apply Kd.R_drew)); exact HO12003.out) hb); have n1_ := Aside0.mk (Kd.R_below (by (with_reducible repeat (first | apply Kd.R_alloc | apply Kd.R_drewN | apply Kd.R_drew)); exact HO12006.out) hb); have n2_ := Aside0.mk (Kd.R_below (by (with_reducible repeat (first | apply Kd.R_alloc | apply Kd.R_drewN | apply Kd.R_drew)); exact HO12011.out) hb); have n3_ := Aside0.mk (Kd.R_below (by (with_reducible repeat (first | apply Kd.R_alloc | apply Kd.R_drewN | apply Kd.R_drew)); exact HO12016.out) hb); have n4_ := Aside0.mk (below_step (by repeat (first | (with_reducible first | exact HB.out | apply below_alloc | apply pw_below_drewN | apply below_drew1) | exact HB.out)) hb); clear HO12003; clear HO12006; clear HO12011; clear HO12016; clear HB; have HO12003 := n0_; have HO12006 := n1_; have HO12011 := n2_; have HO12016 := n3_; have HB := n4_; clear n0_ n1_ n2_ n3_ n4_; (try clear hb); (try clear hb2); (try clear hk); (try clear hi)))
    go_ret
    exact ⟨by first | rfl | (simp [errW_none, errW_some] <;> rfl) | (simp [*, errW_none, errW_some] <;> rfl), by repeat (first | (with_reducible first | exact HB.out | apply below_alloc | apply pw_below_drewN | apply below_drew1) | exact HB.out)⟩

end Go.Proofs.YtnalcjgefbelnaaDoor.Q
end
section
set_option linter.unusedSimpArgs false
set_option linter.unusedVariables false
namespace Go.Proofs.YtnalcjgefbelnaaDoor.Q
open Go.RowKit Go.Proofs.YtnalcjgefbelnaaDoorW.PrintWords Go.Proofs.YtnalcjgefbelnaaDoorW.PrintLast
def aT1 : List S44 := [⟨⟨#[]⟩, [], -1, [], []⟩, ⟨⟨#[112, 99, 105]⟩, [31], 0, [], []⟩]
def aT2 : List S44 := [⟨⟨#[]⟩, [], -1, [], []⟩, ⟨⟨#[112, 99, 105]⟩, [31], 0, [], []⟩, ⟨⟨#[100, 105, 115, 107]⟩, [], 1, [], []⟩]
def aS : List S49 := [⟨⟨#[112, 99, 105]⟩, [31], ⟨#[]⟩⟩, ⟨⟨#[100, 105, 115, 107]⟩, [], ⟨#[]⟩⟩]
theorem units31 : unitsL [31] = [49, 102] := by
  rw [units_one]
  unfold shL
  rw [showL_big (by decide) (by decide), showL_small (by decide)]
  rfl
theorem pathAS : pathL aS = [47, 112, 99, 105, 64, 49, 102, 47, 100, 105, 115, 107] := by
  show stepB ⟨⟨#[112, 99, 105]⟩, [31], ⟨#[]⟩⟩ ++ (stepB ⟨⟨#[100, 105, 115, 107]⟩, [], ⟨#[]⟩⟩ ++ []) = _
  unfold stepB
  dsimp only
  rw [units31]
  rfl
theorem showAS : showP aS = (⟨#[47, 112, 99, 105, 64, 49, 102, 47, 100, 105, 115, 107]⟩, 0) := by
  unfold showP
  rw [pathAS, if_neg (by decide), if_pos (by kernel_rfl), if_neg (by decide)]
theorem okAS : pathOk aS = true := by
  unfold pathOk
  rw [pathAS]
  kernel_rfl
theorem path_alive : tree_Path.f aT2 2 = some (⟨#[47, 112, 99, 105, 64, 49, 102, 47, 100, 105, 115, 107]⟩, 0) := by
  unfold tree_Path.f
  rw [show tree_check.f aT2 2 = some 0 by kernel_rfl, Option.bind_some, if_pos rfl, show (upF aT2 (2 : Int).toNat 2).reverse = aS by kernel_rfl, okAS, if_pos rfl, showAS]
theorem alive08_f : tinderlaw08_alive.f = some true := by
  unfold tinderlaw08_alive.f
  rw [show tree_New.f = some [(⟨⟨#[]⟩, [], -1, [], []⟩ : S44)] from rfl, Option.bind_some, show tree_Add.f [(⟨⟨#[]⟩, [], -1, [], []⟩ : S44)] 0 (⟨#[112, 99, 105]⟩ : ByteArray) [31] = some (aT1, 1, 0) by kernel_rfl, Option.bind_some]
  dsimp only
  rw [show tree_Add.f aT1 1 (⟨#[100, 105, 115, 107]⟩ : ByteArray) [] = some (aT2, 2, 0) by kernel_rfl, Option.bind_some]
  dsimp only
  rw [path_alive, Option.bind_some]
  kernel_rfl
end Go.Proofs.YtnalcjgefbelnaaDoor.Q
end
section
set_option linter.unusedSimpArgs false
set_option linter.unusedVariables false
namespace Go.Proofs.YtnalcjgefbelnaaDoor.Q
open Go.RowKit Go.Proofs.YtnalcjgefbelnaaDoorW.PrintWords Go.Proofs.YtnalcjgefbelnaaDoorW.PrintLast
def PropG (p : S53) : Prop := p.f0.size ≤ 140737488351232 ∧ (p.f1.length * 1 ≤ 140737488351232 ∧ ∀ b ∈ p.f1, (Lit.int .u8 b).wf = true)
def NodeG (a : S44) : Prop := a.f0.size ≤ 140737488351232 ∧ (a.f1.length * 4 ≤ 140737488351232 ∧ ∀ b ∈ a.f1, (Lit.int .u32 b).wf = true) ∧ (Lit.int .i64 a.f2).wf = true ∧ (a.f3.length * 40 ≤ 140737488351232 ∧ ∀ b ∈ a.f3, PropG b) ∧ (a.f4.length * 4 ≤ 140737488351232 ∧ ∀ b ∈ a.f4, (Lit.int .u32 b).wf = true)
def TreeG (z : List S44) : Prop := z.length * 96 ≤ 140737488351232 ∧ ∀ a ∈ z, NodeG a
def CaseG (z : S30) : Prop := TreeG z.f0 ∧ (Lit.int .i64 z.f1).wf = true ∧ z.f2.size ≤ 140737488351232 ∧ (z.f3.length * 1 ≤ 140737488351232 ∧ ∀ b ∈ z.f3, (Lit.int .u8 b).wf = true)
def UnitG (l : List Int) : Prop := l.length * 4 ≤ 140737488351232 ∧ ∀ b ∈ l, (Lit.int .u32 b).wf = true
theorem empty_toList : (⟨#[]⟩ : ByteArray).toList = ([] : List UInt8) := (empty_iff _).2 rfl
end Go.Proofs.YtnalcjgefbelnaaDoor.Q
end
section
namespace Go.Proofs.YtnalcjgefbelnaaDoor.Q
open Go.RowKit Go.Proofs.YtnalcjgefbelnaaDoorW.PrintWords Go.Proofs.YtnalcjgefbelnaaDoorW.PrintLast Go.Proofs.YtnalcjgefbelnaaDoorW.PrintMore
set_option linter.unusedVariables false
set_option linter.unusedSimpArgs false

attribute [local go_sem] max2_int min2_int max_two min_two max_three min_three max_four min_four
/-! ### tree_Next: function 27 -/
def tree_Next.j0 : Nat → List (S44) → Int → Int → Int → Bool → Option (ByteArray × Int)
  | 0, _, _, _, _, _ => none
  | k + 1, x0, x1, x8, x9, x17 => if x17 = true then (if 0 ≤ x1 then (if x1 < (x0.length : Int) then (if ((-1) + 1) = (((rd_T44 x0 x1).f3).length : Int) then (some ((⟨#[]⟩ : ByteArray), 0)) else (if 0 ≤ ((-1) + 1) then (if ((-1) + 1) < (((rd_T44 x0 x1).f3).length : Int) then (some ((rd_T53 ((rd_T44 x0 x1).f3) ((-1) + 1)).f0, 0)) else (none)) else (none))) else (none)) else (none)) else (if x9 = 0 then (if 0 ≤ x1 then (if x1 < (x0.length : Int) then (if (wrap64 (x8 + 1)) = (((rd_T44 x0 x1).f3).length : Int) then (some ((⟨#[]⟩ : ByteArray), 0)) else (if 0 ≤ (wrap64 (x8 + 1)) then (if (wrap64 (x8 + 1)) < (((rd_T44 x0 x1).f3).length : Int) then (some ((rd_T53 ((rd_T44 x0 x1).f3) (wrap64 (x8 + 1))).f0, 0)) else (none)) else (none))) else (none)) else (none)) else (some ((⟨#[]⟩ : ByteArray), x9)))
def tree_Next.f (k : Nat) (l0 : List (S44)) (a1 : Int) (a2 : ByteArray) : Option (ByteArray × Int) := (tree_place.f l0 a1 a2).bind fun bt28001 => (if bt28001.2 = 2 then (tree_Next.j0 k l0 a1 bt28001.1 bt28001.2 (a2.toList == ([] : List UInt8))) else (tree_Next.j0 k l0 a1 bt28001.1 bt28001.2 false))
set_option maxHeartbeats 8000000 in
set_option maxRecDepth 100000 in
theorem tree_Next.calls (k : Nat) (A0 : Option Addr) (c0 : Nat) (l0 : List (S44)) (a1 : Int) (a2 : ByteArray) (r1 : ByteArray) (r2 : Int) (w : World) (hr0 : Kd.C k44 w A0 l0.length l0) (hc0 : l0.length ≤ c0) (h : tree_Next.f k l0 a1 a2 = some (r1, r2)) :
    Calls Tryd.prog 27 #[.slice A0 l0.length c0, .int .i64 a1, .string a2] w fun e w' => e = .returned (.tuple #[.string r1, .int .i64 r2]) ∧ Below w.heap.size w w' := by
  have HR0 := Aside0.mk hr0
  have HC0 := Aside0.mk hc0
  clear hr0 hc0
  have HB := Aside0.mk (Below.refl w.heap.size w)
  have H : ((tree_place.f l0 a1 a2).bind fun bt28001 => (if bt28001.2 = 2 then (tree_Next.j0 k l0 a1 bt28001.1 bt28001.2 (a2.toList == ([] : List UInt8))) else (tree_Next.j0 k l0 a1 bt28001.1 bt28001.2 false))) = some (r1, r2) := h
  clear h
  replace H := Option.bind_eq_some_iff.mp H
  obtain ⟨⟨t28001, t28002⟩, A40, H⟩ := H
  replace H : (if t28002 = 2 then (tree_Next.j0 k l0 a1 t28001 t28002 (a2.toList == ([] : List UInt8))) else (tree_Next.j0 k l0 a1 t28001 t28002 false)) = some (r1, r2) := H
  have A4 := Aside0.mk A40
  clear A40
  have HC5 := Aside0.mk H
  clear H
  go_enter Tryd.func27, Tryd.ntmps27
  go_upto_region 2 with (first | ((with_reducible refine gate_callee (f := 64) rfl ?_); refine goesL_ (some 14) rfl rfl Tryd.func64 (by kernel_rfl) rfl #[.slice A0 l0.length c0, .int .i64 a1, .string a2] rfl (by (try simp only [List.map_toArray, List.map_cons, List.map_nil]); first | done | rfl | (simp only [List.length_drop, List.length_take]; rfl)) ?_; (with_reducible refine (tree_place.calls _ _ l0 a1 a2 t28001 t28002 _ ?side1 ?side2 A4.out).mono ?_); (case side1 => repeat (first | exact HR0.out | (with_reducible refine Kd.C_alloc ?_ _) | (with_reducible refine Kd.C_drewN ?_ _) | (with_reducible refine Kd.C_drew ?_))); (case side2 => exact HC0.out); rintro e w6 ⟨rfl, hb⟩; refine ⟨_, rfl, ?_⟩; have n0_ := Aside0.mk (below_step (by repeat (first | (with_reducible first | exact HB.out | apply below_alloc | apply pw_below_drewN | apply below_drew1) | exact HB.out)) hb); clear HB; have HB := n0_; clear n0_; (try clear hb); (try clear hb2); (try clear hk); (try clear hi)))
  (try simp only [Act.put, List.setIfInBounds_toArray, List.set_cons_zero, List.set_cons_succ])
  go_cut [17] (fun v17 wc => ∃ (kq : Nat) (x17_4 : Bool), v17 = .bool x17_4 ∧ Aside0 (tree_Next.j0 kq l0 a1 t28001 t28002 x17_4 = some (r1, r2)) ∧ Aside0 (kq ≤ k) ∧ Aside0 (Below w.heap.size w wc))
  case first =>
    have H := HC5.out
    clear HC5
    by_cases c7 : t28002 = 2
    · rw [if_pos c7] at H
      have c7b0 : (t28002 == 2) = true := beq_iff_eq.mpr c7
      have c7b1 : (t28002 != 2) = false := bne_eq_false_iff_eq.mpr c7
      clear c7
      (first | rw [c7b0] | (simp only [i64_w, i32_w]; rw [c7b0]) | skip)
      have H' := Aside0.mk H
      clear H
      go_wp2
      go_meet
      case rel => exact ⟨_, ((a2.toList == ([] : List UInt8))), (by first | rfl | (simp; done) | (simp [*]; done)), H', ⟨by first | omega | exact Nat.le_refl _⟩, ⟨by repeat (first | (with_reducible first | exact HB.out | apply below_alloc | apply pw_below_drewN | apply below_drew1) | exact HB.out)⟩⟩
    · rw [if_neg c7] at H
      have c7b0 : (t28002 == 2) = false := beq_eq_false_iff_ne.mpr c7
      have c7b1 : (t28002 != 2) = true := bne_iff_ne.mpr c7
      (first | rw [c7b0] | (simp only [i64_w, i32_w]; rw [c7b0]) | skip)
      have H' := Aside0.mk H
      clear H
      go_wp2
      go_meet
      case rel => exact ⟨_, (false), (by first | rfl | (simp; done) | (simp [*]; done)), H', ⟨by first | omega | exact Nat.le_refl _⟩, ⟨by repeat (first | (with_reducible first | exact HB.out | apply below_alloc | apply pw_below_drewN | apply below_drew1) | exact HB.out)⟩⟩
  case rest =>
    clear HC5
    try clear c2
    try clear p2
    try clear c6
    try clear c7
    try clear c7b0
    try clear c7b1
    obtain ⟨kq, x17_4, rfl, HA, HJ4, HB⟩ := hcut
    cases kq with
    | zero => exact absurd HA.out (by simp [tree_Next.j0])
    | succ kj4 =>
      have H := HA.out
      clear HA
      simp only [tree_Next.j0] at H
      by_cases c8 : x17_4 = true
      · subst c8
        have H1 : (if 0 ≤ a1 then (if a1 < (l0.length : Int) then (if ((-1) + 1) = (((rd_T44 l0 a1).f3).length : Int) then (some ((⟨#[]⟩ : ByteArray), 0)) else (if 0 ≤ ((-1) + 1) then (if ((-1) + 1) < (((rd_T44 l0 a1).f3).length : Int) then (some ((rd_T53 ((rd_T44 l0 a1).f3) ((-1) + 1)).f0, 0)) else (none)) else (none))) else (none)) else (none)) = some (r1, r2) := by rw [if_pos rfl] at H; exact H
        clear H
        have H := H1
        clear H1
        by_cases c9 : 0 ≤ a1
        · rw [if_pos c9] at H
          have c9b0 : decide (0 ≤ a1) = true := decide_eq_true c9
          clear c9
          by_cases c10 : a1 < (l0.length : Int)
          · rw [if_pos c10] at H
            have c10b0 : decide (a1 < (l0.length : Int)) = true := decide_eq_true c10
            clear c10
            by_cases c11 : ((-1) + 1) = (((rd_T44 l0 a1).f3).length : Int)
            · rw [if_pos c11] at H
              have c11b0 : (((-1) + 1) == (((rd_T44 l0 a1).f3).length : Int)) = true := beq_iff_eq.mpr c11
              have c11b1 : (((-1) + 1) != (((rd_T44 l0 a1).f3).length : Int)) = false := bne_eq_false_iff_eq.mpr c11
              clear c11
              simp only [Option.some.injEq, Prod.mk.injEq] at H
              obtain ⟨rfl, rfl⟩ := H
              have p28003 : 0 ≤ (a1 : Int) := of_decide_eq_true (by first | (with_reducible assumption) | assumption)
              have q28003 : a1 < (l0.length : Int) := of_decide_eq_true (by first | (with_reducible assumption) | assumption)
              obtain ⟨ad28003, A28003_1, c28003_1, A28003_3, c28003_3, A28003_4, c28003_4, e28003, hx28003_0, hx28003_1, hx28003_2, hx28003_3, hx28003_4, hl28003_1, hi28003_1, hl28003_3, hi28003_3, hl28003_4, hi28003_4⟩ := at_T44 HR0.out a1 p28003 q28003
              cases e28003
              replace hx28003_0 := (HB.out.cell (World.block_lt_of_cell? w _ hx28003_0)).trans hx28003_0
              replace hx28003_1 := (HB.out.cell (World.block_lt_of_cell? w _ hx28003_1)).trans hx28003_1
              replace hx28003_2 := (HB.out.cell (World.block_lt_of_cell? w _ hx28003_2)).trans hx28003_2
              replace hx28003_3 := (HB.out.cell (World.block_lt_of_cell? w _ hx28003_3)).trans hx28003_3
              replace hx28003_4 := (HB.out.cell (World.block_lt_of_cell? w _ hx28003_4)).trans hx28003_4
              have HR28003_1 := Aside0.mk hi28003_1
              have HC28003_1 := Aside0.mk hl28003_1
              clear hi28003_1 hl28003_1
              have HR28003_3 := Aside0.mk hi28003_3
              have HC28003_3 := Aside0.mk hl28003_3
              clear hi28003_3 hl28003_3
              have HR28003_4 := Aside0.mk hi28003_4
              have HC28003_4 := Aside0.mk hl28003_4
              clear hi28003_4 hl28003_4
              replace p28003 := eq_true p28003
              replace q28003 := eq_true q28003
              go_wp2
              go_ret2
              exact ⟨by first | rfl | (simp [errW_none, errW_some] <;> rfl) | (simp [*, errW_none, errW_some] <;> rfl), by repeat (first | (with_reducible first | exact HB.out | apply below_alloc | apply pw_below_drewN | apply below_drew1) | exact HB.out)⟩
            · rw [if_neg c11] at H
              have c11b0 : (((-1) + 1) == (((rd_T44 l0 a1).f3).length : Int)) = false := beq_eq_false_iff_ne.mpr c11
              have c11b1 : (((-1) + 1) != (((rd_T44 l0 a1).f3).length : Int)) = true := bne_iff_ne.mpr c11
              obtain ⟨ji12, hji12⟩ : ∃ j_ : Int, ((-1) + 1) = j_ := ⟨_, rfl⟩
              replace H : (if 0 ≤ (ji12) then (if (ji12) < (((rd_T44 l0 a1).f3).length : Int) then (some ((rd_T53 ((rd_T44 l0 a1).f3) (ji12)).f0, 0)) else (none)) else (none)) = some (r1, r2) := by first | (rw [hji12] at H; exact H) | (simp only [hji12] at H ⊢; exact H)
              (try rw [hji12] at c11b0)
              (try rw [hji12] at c11b1)
              by_cases c13 : 0 ≤ (ji12)
              · rw [if_pos c13] at H
                have c13b0 : decide (0 ≤ (ji12)) = true := decide_eq_true c13
                clear c13
                by_cases c14 : (ji12) < (((rd_T44 l0 a1).f3).length : Int)
                · rw [if_pos c14] at H
                  have c14b0 : decide ((ji12) < (((rd_T44 l0 a1).f3).length : Int)) = true := decide_eq_true c14
                  clear c14
                  simp only [Option.some.injEq, Prod.mk.injEq] at H
                  obtain ⟨rfl, rfl⟩ := H
                  have p28003 : 0 ≤ (a1 : Int) := of_decide_eq_true (by first | (with_reducible assumption) | assumption)
                  have q28003 : a1 < (l0.length : Int) := of_decide_eq_true (by first | (with_reducible assumption) | assumption)
                  obtain ⟨ad28003, A28003_1, c28003_1, A28003_3, c28003_3, A28003_4, c28003_4, e28003, hx28003_0, hx28003_1, hx28003_2, hx28003_3, hx28003_4, hl28003_1, hi28003_1, hl28003_3, hi28003_3, hl28003_4, hi28003_4⟩ := at_T44 HR0.out a1 p28003 q28003
                  cases e28003
                  replace hx28003_0 := (HB.out.cell (World.block_lt_of_cell? w _ hx28003_0)).trans hx28003_0
                  replace hx28003_1 := (HB.out.cell (World.block_lt_of_cell? w _ hx28003_1)).trans hx28003_1
                  replace hx28003_2 := (HB.out.cell (World.block_lt_of_cell? w _ hx28003_2)).trans hx28003_2
                  replace hx28003_3 := (HB.out.cell (World.block_lt_of_cell? w _ hx28003_3)).trans hx28003_3
                  replace hx28003_4 := (HB.out.cell (World.block_lt_of_cell? w _ hx28003_4)).trans hx28003_4
                  have HR28003_1 := Aside0.mk hi28003_1
                  have HC28003_1 := Aside0.mk hl28003_1
                  clear hi28003_1 hl28003_1
                  have HR28003_3 := Aside0.mk hi28003_3
                  have HC28003_3 := Aside0.mk hl28003_3
                  clear hi28003_3 hl28003_3
                  have HR28003_4 := Aside0.mk hi28003_4
                  have HC28003_4 := Aside0.mk hl28003_4
                  clear hi28003_4 hl28003_4
                  replace p28003 := eq_true p28003
                  replace q28003 := eq_true q28003
                  have p28004 : 0 ≤ (a1 : Int) := of_decide_eq_true (by first | (with_reducible assumption) | assumption)
                  have q28004 : a1 < (l0.length : Int) := of_decide_eq_true (by first | (with_reducible assumption) | assumption)
                  obtain ⟨ad28004, A28004_1, c28004_1, A28004_3, c28004_3, A28004_4, c28004_4, e28004, hx28004_0, hx28004_1, hx28004_2, hx28004_3, hx28004_4, hl28004_1, hi28004_1, hl28004_3, hi28004_3, hl28004_4, hi28004_4⟩ := at_T44 HR0.out a1 p28004 q28004
                  obtain rfl : ad28003 = ad28004 := (by injection e28004)
                  replace hx28004_0 := (HB.out.cell (World.block_lt_of_cell? w _ hx28004_0)).trans hx28004_0
                  replace hx28004_1 := (HB.out.cell (World.block_lt_of_cell? w _ hx28004_1)).trans hx28004_1
                  replace hx28004_2 := (HB.out.cell (World.block_lt_of_cell? w _ hx28004_2)).trans hx28004_2
                  replace hx28004_3 := (HB.out.cell (World.block_lt_of_cell? w _ hx28004_3)).trans hx28004_3
                  replace hx28004_4 := (HB.out.cell (World.block_lt_of_cell? w _ hx28004_4)).trans hx28004_4
                  have HR28004_1 := Aside0.mk hi28004_1
                  have HC28004_1 := Aside0.mk hl28004_1
                  clear hi28004_1 hl28004_1
                  have HR28004_3 := Aside0.mk hi28004_3
                  have HC28004_3 := Aside0.mk hl28004_3
                  clear hi28004_3 hl28004_3
                  have HR28004_4 := Aside0.mk hi28004_4
                  have HC28004_4 := Aside0.mk hl28004_4
                  clear hi28004_4 hl28004_4
                  replace p28004 := eq_true p28004
                  replace q28004 := eq_true q28004
                  have ea_ := Option.some.inj (hx28003_1.symm.trans hx28004_1)
                  injection ea_ with ea_ en_ ec_
                  subst ea_
                  subst ec_
                  clear en_
                  have ea_ := Option.some.inj (hx28003_3.symm.trans hx28004_3)
                  injection ea_ with ea_ en_ ec_
                  subst ea_
                  subst ec_
                  clear en_
                  have ea_ := Option.some.inj (hx28003_4.symm.trans hx28004_4)
                  injection ea_ with ea_ en_ ec_
                  subst ea_
                  subst ec_
                  clear en_
                  have p28005 : 0 ≤ ((ji12) : Int) := of_decide_eq_true (by first | (with_reducible assumption) | assumption)
                  have q28005 : (ji12) < (((rd_T44 l0 a1).f3).length : Int) := of_decide_eq_true (by first | (with_reducible assumption) | assumption)
                  obtain ⟨ad28005, A28005_1, c28005_1, e28005, hx28005_0, hx28005_1, hl28005_1, hi28005_1⟩ := at_T53 HR28004_3.out (ji12) p28005 q28005
                  cases e28005
                  replace hx28005_0 := (HB.out.cell (World.block_lt_of_cell? w _ hx28005_0)).trans hx28005_0
                  replace hx28005_1 := (HB.out.cell (World.block_lt_of_cell? w _ hx28005_1)).trans hx28005_1
                  have HR28005_1 := Aside0.mk hi28005_1
                  have HC28005_1 := Aside0.mk hl28005_1
                  clear hi28005_1 hl28005_1
                  replace p28005 := eq_true p28005
                  replace q28005 := eq_true q28005
                  go_wp2
                  go_ret2
                  exact ⟨by first | rfl | (simp [errW_none, errW_some] <;> rfl) | (simp only [← hji12]; first | rfl | (simp [errW_none, errW_some] <;> rfl)) | (simp [*, errW_none, errW_some] <;> rfl), by repeat (first | (with_reducible first | exact HB.out | apply below_alloc | apply pw_below_drewN | apply below_drew1) | exact HB.out)⟩
                · rw [if_neg c14] at H
                  exact absurd H (by simp)
              · rw [if_neg c13] at H
                exact absurd H (by simp)
          · rw [if_neg c10] at H
            exact absurd H (by simp)
        · rw [if_neg c9] at H
          exact absurd H (by simp)
      · replace c8 := Bool.eq_false_iff.mpr c8
        subst c8
        have H1 : (if t28002 = 0 then (if 0 ≤ a1 then (if a1 < (l0.length : Int) then (if (wrap64 (t28001 + 1)) = (((rd_T44 l0 a1).f3).length : Int) then (some ((⟨#[]⟩ : ByteArray), 0)) else (if 0 ≤ (wrap64 (t28001 + 1)) then (if (wrap64 (t28001 + 1)) < (((rd_T44 l0 a1).f3).length : Int) then (some ((rd_T53 ((rd_T44 l0 a1).f3) (wrap64 (t28001 + 1))).f0, 0)) else (none)) else (none))) else (none)) else (none)) else (some ((⟨#[]⟩ : ByteArray), t28002))) = some (r1, r2) := by rw [if_neg (show ¬ (false = true) by decide)] at H; exact H
        clear H
        have H := H1
        clear H1
        by_cases c15 : t28002 = 0
        · rw [if_pos c15] at H
          have c15b0 : (t28002 == 0) = true := beq_iff_eq.mpr c15
          have c15b1 : (t28002 != 0) = false := bne_eq_false_iff_eq.mpr c15
          clear c15
          by_cases c16 : 0 ≤ a1
          · rw [if_pos c16] at H
            have c16b0 : decide (0 ≤ a1) = true := decide_eq_true c16
            clear c16
            by_cases c17 : a1 < (l0.length : Int)
            · rw [if_pos c17] at H
              have c17b0 : decide (a1 < (l0.length : Int)) = true := decide_eq_true c17
              clear c17
              by_cases c18 : (wrap64 (t28001 + 1)) = (((rd_T44 l0 a1).f3).length : Int)
              · rw [if_pos c18] at H
                have c18b0 : ((wrap64 (t28001 + 1)) == (((rd_T44 l0 a1).f3).length : Int)) = true := beq_iff_eq.mpr c18
                have c18b1 : ((wrap64 (t28001 + 1)) != (((rd_T44 l0 a1).f3).length : Int)) = false := bne_eq_false_iff_eq.mpr c18
                clear c18
                simp only [Option.some.injEq, Prod.mk.injEq] at H
                obtain ⟨rfl, rfl⟩ := H
                have p28006 : 0 ≤ (a1 : Int) := of_decide_eq_true (by first | (with_reducible assumption) | assumption)
                have q28006 : a1 < (l0.length : Int) := of_decide_eq_true (by first | (with_reducible assumption) | assumption)
                obtain ⟨ad28006, A28006_1, c28006_1, A28006_3, c28006_3, A28006_4, c28006_4, e28006, hx28006_0, hx28006_1, hx28006_2, hx28006_3, hx28006_4, hl28006_1, hi28006_1, hl28006_3, hi28006_3, hl28006_4, hi28006_4⟩ := at_T44 HR0.out a1 p28006 q28006
                cases e28006
                replace hx28006_0 := (HB.out.cell (World.block_lt_of_cell? w _ hx28006_0)).trans hx28006_0
                replace hx28006_1 := (HB.out.cell (World.block_lt_of_cell? w _ hx28006_1)).trans hx28006_1
                replace hx28006_2 := (HB.out.cell (World.block_lt_of_cell? w _ hx28006_2)).trans hx28006_2
                replace hx28006_3 := (HB.out.cell (World.block_lt_of_cell? w _ hx28006_3)).trans hx28006_3
                replace hx28006_4 := (HB.out.cell (World.block_lt_of_cell? w _ hx28006_4)).trans hx28006_4
                have HR28006_1 := Aside0.mk hi28006_1
                have HC28006_1 := Aside0.mk hl28006_1
                clear hi28006_1 hl28006_1
                have HR28006_3 := Aside0.mk hi28006_3
                have HC28006_3 := Aside0.mk hl28006_3
                clear hi28006_3 hl28006_3
                have HR28006_4 := Aside0.mk hi28006_4
                have HC28006_4 := Aside0.mk hl28006_4
                clear hi28006_4 hl28006_4
                replace p28006 := eq_true p28006
                replace q28006 := eq_true q28006
                go_wp2
                go_ret2
                exact ⟨by first | rfl | (simp [errW_none, errW_some] <;> rfl) | (simp [*, errW_none, errW_some] <;> rfl), by repeat (first | (with_reducible first | exact HB.out | apply below_alloc | apply pw_below_drewN | apply below_drew1) | exact HB.out)⟩
              · rw [if_neg c18] at H
                have c18b0 : ((wrap64 (t28001 + 1)) == (((rd_T44 l0 a1).f3).length : Int)) = false := beq_eq_false_iff_ne.mpr c18
                have c18b1 : ((wrap64 (t28001 + 1)) != (((rd_T44 l0 a1).f3).length : Int)) = true := bne_iff_ne.mpr c18
                obtain ⟨ji19, hji19⟩ : ∃ j_ : Int, (wrap64 (t28001 + 1)) = j_ := ⟨_, rfl⟩
                replace H : (if 0 ≤ (ji19) then (if (ji19) < (((rd_T44 l0 a1).f3).length : Int) then (some ((rd_T53 ((rd_T44 l0 a1).f3) (ji19)).f0, 0)) else (none)) else (none)) = some (r1, r2) := by first | (rw [hji19] at H; exact H) | (simp only [hji19] at H ⊢; exact H)
                (try rw [hji19] at c18b0)
                (try rw [hji19] at c18b1)
                have hji19w : (IntKind.i64.wrap (t28001 + 1)) = ji19 := (i64_w _).trans hji19
                by_cases c20 : 0 ≤ (ji19)
                · rw [if_pos c20] at H
                  have c20b0 : decide (0 ≤ (ji19)) = true := decide_eq_true c20
                  clear c20
                  by_cases c21 : (ji19) < (((rd_T44 l0 a1).f3).length : Int)
                  · rw [if_pos c21] at H
                    have c21b0 : decide ((ji19) < (((rd_T44 l0 a1).f3).length : Int)) = true := decide_eq_true c21
                    clear c21
                    simp only [Option.some.injEq, Prod.mk.injEq] at H
                    obtain ⟨rfl, rfl⟩ := H
                    have p28006 : 0 ≤ (a1 : Int) := of_decide_eq_true (by first | (with_reducible assumption) | assumption)
                    have q28006 : a1 < (l0.length : Int) := of_decide_eq_true (by first | (with_reducible assumption) | assumption)
                    obtain ⟨ad28006, A28006_1, c28006_1, A28006_3, c28006_3, A28006_4, c28006_4, e28006, hx28006_0, hx28006_1, hx28006_2, hx28006_3, hx28006_4, hl28006_1, hi28006_1, hl28006_3, hi28006_3, hl28006_4, hi28006_4⟩ := at_T44 HR0.out a1 p28006 q28006
                    cases e28006
                    replace hx28006_0 := (HB.out.cell (World.block_lt_of_cell? w _ hx28006_0)).trans hx28006_0
                    replace hx28006_1 := (HB.out.cell (World.block_lt_of_cell? w _ hx28006_1)).trans hx28006_1
                    replace hx28006_2 := (HB.out.cell (World.block_lt_of_cell? w _ hx28006_2)).trans hx28006_2
                    replace hx28006_3 := (HB.out.cell (World.block_lt_of_cell? w _ hx28006_3)).trans hx28006_3
                    replace hx28006_4 := (HB.out.cell (World.block_lt_of_cell? w _ hx28006_4)).trans hx28006_4
                    have HR28006_1 := Aside0.mk hi28006_1
                    have HC28006_1 := Aside0.mk hl28006_1
                    clear hi28006_1 hl28006_1
                    have HR28006_3 := Aside0.mk hi28006_3
                    have HC28006_3 := Aside0.mk hl28006_3
                    clear hi28006_3 hl28006_3
                    have HR28006_4 := Aside0.mk hi28006_4
                    have HC28006_4 := Aside0.mk hl28006_4
                    clear hi28006_4 hl28006_4
                    replace p28006 := eq_true p28006
                    replace q28006 := eq_true q28006
                    have p28007 : 0 ≤ (a1 : Int) := of_decide_eq_true (by first | (with_reducible assumption) | assumption)
                    have q28007 : a1 < (l0.length : Int) := of_decide_eq_true (by first | (with_reducible assumption) | assumption)
                    obtain ⟨ad28007, A28007_1, c28007_1, A28007_3, c28007_3, A28007_4, c28007_4, e28007, hx28007_0, hx28007_1, hx28007_2, hx28007_3, hx28007_4, hl28007_1, hi28007_1, hl28007_3, hi28007_3, hl28007_4, hi28007_4⟩ := at_T44 HR0.out a1 p28007 q28007
                    obtain rfl : ad28006 = ad28007 := (by injection e28007)
                    replace hx28007_0 := (HB.out.cell (World.block_lt_of_cell? w _ hx28007_0)).trans hx28007_0
                    replace hx28007_1 := (HB.out.cell (World.block_lt_of_cell? w _ hx28007_1)).trans hx28007_1
                    replace hx28007_2 := (HB.out.cell (World.block_lt_of_cell? w _ hx28007_2)).trans hx28007_2
                    replace hx28007_3 := (HB.out.cell (World.block_lt_of_cell? w _ hx28007_3)).trans hx28007_3
                    replace hx28007_4 := (HB.out.cell (World.block_lt_of_cell? w _ hx28007_4)).trans hx28007_4
                    have HR28007_1 := Aside0.mk hi28007_1
                    have HC28007_1 := Aside0.mk hl28007_1
                    clear hi28007_1 hl28007_1
                    have HR28007_3 := Aside0.mk hi28007_3
                    have HC28007_3 := Aside0.mk hl28007_3
                    clear hi28007_3 hl28007_3
                    have HR28007_4 := Aside0.mk hi28007_4
                    have HC28007_4 := Aside0.mk hl28007_4
                    clear hi28007_4 hl28007_4
                    replace p28007 := eq_true p28007
                    replace q28007 := eq_true q28007
                    have ea_ := Option.some.inj (hx28006_1.symm.trans hx28007_1)
                    injection ea_ with ea_ en_ ec_
                    subst ea_
                    subst ec_
                    clear en_
                    have ea_ := Option.some.inj (hx28006_3.symm.trans hx28007_3)
                    injection ea_ with ea_ en_ ec_
                    subst ea_
                    subst ec_
                    clear en_
                    have ea_ := Option.some.inj (hx28006_4.symm.trans hx28007_4)
                    injection ea_ with ea_ en_ ec_
                    subst ea_
                    subst ec_
                    clear en_
                    have p28008 : 0 ≤ ((ji19) : Int) := of_decide_eq_true (by first | (with_reducible assumption) | assumption)
                    have q28008 : (ji19) < (((rd_T44 l0 a1).f3).length : Int) := of_decide_eq_true (by first | (with_reducible assumption) | assumption)
                    obtain ⟨ad28008, A28008_1, c28008_1, e28008, hx28008_0, hx28008_1, hl28008_1, hi28008_1⟩ := at_T53 HR28007_3.out (ji19) p28008 q28008
                    cases e28008
                    replace hx28008_0 := (HB.out.cell (World.block_lt_of_cell? w _ hx28008_0)).trans hx28008_0
                    replace hx28008_1 := (HB.out.cell (World.block_lt_of_cell? w _ hx28008_1)).trans hx28008_1
                    have HR28008_1 := Aside0.mk hi28008_1
                    have HC28008_1 := Aside0.mk hl28008_1
                    clear hi28008_1 hl28008_1
                    replace p28008 := eq_true p28008
                    replace q28008 := eq_true q28008
                    go_wp2
                    go_ret2
                    exact ⟨by first | rfl | (simp [errW_none, errW_some] <;> rfl) | (simp only [← hji19]; first | rfl | (simp [errW_none, errW_some] <;> rfl)) | (simp [*, errW_none, errW_some] <;> rfl), by repeat (first | (with_reducible first | exact HB.out | apply below_alloc | apply pw_below_drewN | apply below_drew1) | exact HB.out)⟩
                  · rw [if_neg c21] at H
                    exact absurd H (by simp)
                · rw [if_neg c20] at H
                  exact absurd H (by simp)
            · rw [if_neg c17] at H
              exact absurd H (by simp)
          · rw [if_neg c16] at H
            exact absurd H (by simp)
        · rw [if_neg c15] at H
          have c15b0 : (t28002 == 0) = false := beq_eq_false_iff_ne.mpr c15
          have c15b1 : (t28002 != 0) = true := bne_iff_ne.mpr c15
          simp only [Option.some.injEq, Prod.mk.injEq] at H
          obtain ⟨rfl, rfl⟩ := H
          go_wp2
          go_ret2
          exact ⟨by first | rfl | (simp [errW_none, errW_some] <;> rfl) | (simp [*, errW_none, errW_some] <;> rfl), by repeat (first | (with_reducible first | exact HB.out | apply below_alloc | apply pw_below_drewN | apply below_drew1) | exact HB.out)⟩

end Go.Proofs.YtnalcjgefbelnaaDoor.Q
end
section
namespace Go.Proofs.YtnalcjgefbelnaaDoor.Q
open Go.RowKit Go.Proofs.YtnalcjgefbelnaaDoorW.PrintWords Go.Proofs.YtnalcjgefbelnaaDoorW.PrintLast Go.Proofs.YtnalcjgefbelnaaDoorW.PrintMore
set_option linter.unusedVariables false
set_option linter.unusedSimpArgs false

attribute [local go_sem] max2_int min2_int max_two min_two max_three min_three max_four min_four
/-! ### tree_Get: function 28 -/
def tree_Get.f (l0 : List (S44)) (a1 : Int) (a2 : ByteArray) : Option (List Int × Int) := (tree_place.f l0 a1 a2).bind fun bt29001 => (if bt29001.2 = 0 then (if 0 ≤ a1 then (if a1 < (l0.length : Int) then (if 0 ≤ bt29001.1 then (if bt29001.1 < (((rd_T44 l0 a1).f3).length : Int) then ((slices_Clone_byte_byte.f ((rd_T53 ((rd_T44 l0 a1).f3) bt29001.1).f1)).bind fun t29005 => (some (t29005, 0))) else (none)) else (none)) else (none)) else (none)) else (some (([] : List Int), bt29001.2)))

end Go.Proofs.YtnalcjgefbelnaaDoor.Q
end
section
namespace Go.Proofs.YtnalcjgefbelnaaDoor.Q
open Go.RowKit Go.Proofs.YtnalcjgefbelnaaDoorW.PrintWords Go.Proofs.YtnalcjgefbelnaaDoorW.PrintLast Go.Proofs.YtnalcjgefbelnaaDoorW.PrintMore
set_option linter.unusedVariables false
set_option linter.unusedSimpArgs false

attribute [local go_sem] max2_int min2_int max_two min_two max_three min_three max_four min_four
/-! ### tree_Children: function 33 -/
def tree_Children.l0 : Nat → Int → List Int → List (S44) → Int → Int → Option (List Int)
  | 0, _, _, _, _, _ => none
  | k + 1, x1, x4, x7, x8, x9 => if x9 < x8 then (if 0 ≤ x9 then (if x9 < (x7.length : Int) then (if x1 ≥ 0 then (if ((rd_T44 x7 x9).f2) = x1 then (if x4.length < 17592186044416 then (tree_Children.l0 k x1 (x4 ++ [x9]) x7 x8 (wrap64 (x9 + 1))) else (none)) else (tree_Children.l0 k x1 x4 x7 x8 (wrap64 (x9 + 1)))) else (tree_Children.l0 k x1 x4 x7 x8 (wrap64 (x9 + 1)))) else (none)) else (none)) else (some x4)
def tree_Children.f (k : Nat) (l0 : List (S44)) (a1 : Int) : Option (List Int) := tree_Children.l0 k a1 ([] : List Int) l0 (l0.length : Int) 0

end Go.Proofs.YtnalcjgefbelnaaDoor.Q
end
section
namespace Go.Proofs.YtnalcjgefbelnaaDoor.Q
open Go.RowKit Go.Proofs.YtnalcjgefbelnaaDoorW.PrintWords Go.Proofs.YtnalcjgefbelnaaDoorW.PrintLast Go.Proofs.YtnalcjgefbelnaaDoorW.PrintMore
set_option linter.unusedVariables false
set_option linter.unusedSimpArgs false

attribute [local go_sem] max2_int min2_int max_two min_two max_three min_three max_four min_four
/-! ### tinderref08_Get: function 29 -/
def tinderref08_Get.f (k : Nat) (l0 : List (S44)) (a1 : Int) (a2 : ByteArray) : Option (List Int × Int) := (tinderref08_wrong.f k l0 a1).bind fun t30001 => (if t30001 = 0 then (if 0 ≤ a1 then (if a1 < (l0.length : Int) then ((tinderref08_find.f k ((rd_T44 l0 a1).f3) a2).bind fun t30003 => (if t30003 < 0 then (some (([] : List Int), 2)) else (if 0 ≤ t30003 then (if t30003 < (((rd_T44 l0 a1).f3).length : Int) then ((tinderref04_Copy.f ((rd_T53 ((rd_T44 l0 a1).f3) t30003).f1)).bind fun t30006 => (some (t30006, 0))) else (none)) else (none)))) else (none)) else (none)) else (some (([] : List Int), t30001)))

end Go.Proofs.YtnalcjgefbelnaaDoor.Q
end
section
namespace Go.Proofs.YtnalcjgefbelnaaDoor.Q
open Go.RowKit Go.Proofs.YtnalcjgefbelnaaDoorW.PrintWords Go.Proofs.YtnalcjgefbelnaaDoorW.PrintLast Go.Proofs.YtnalcjgefbelnaaDoorW.PrintMore
set_option linter.unusedVariables false
set_option linter.unusedSimpArgs false

attribute [local go_sem] max2_int min2_int max_two min_two max_three min_three max_four min_four
/-! ### tinderref08_Next: function 30 -/
def tinderref08_Next.j0 : Nat → List (S44) → Int → Int → Bool → Option (ByteArray × Int)
  | 0, _, _, _, _ => none
  | k + 1, x0, x1, x9, x28 => if x28 = true then (some ((⟨#[]⟩ : ByteArray), 2)) else (if 0 ≤ x1 then (if x1 < (x0.length : Int) then (if (wrap64 (x9 + 1)) < (((rd_T44 x0 x1).f3).length : Int) then (if 0 ≤ (wrap64 (x9 + 1)) then (some ((rd_T53 ((rd_T44 x0 x1).f3) (wrap64 (x9 + 1))).f0, 0)) else (none)) else (some ((⟨#[]⟩ : ByteArray), 0))) else (none)) else (none))
def tinderref08_Next.f (k : Nat) (l0 : List (S44)) (a1 : Int) (a2 : ByteArray) : Option (ByteArray × Int) := (tinderref08_wrong.f k l0 a1).bind fun t31001 => (if t31001 = 0 then (if 0 ≤ a1 then (if a1 < (l0.length : Int) then ((tinderref08_find.f k ((rd_T44 l0 a1).f3) a2).bind fun t31003 => (if t31003 < 0 then (tinderref08_Next.j0 k l0 a1 t31003 (a2.toList != ([] : List UInt8))) else (tinderref08_Next.j0 k l0 a1 t31003 false))) else (none)) else (none)) else (some ((⟨#[]⟩ : ByteArray), t31001)))

end Go.Proofs.YtnalcjgefbelnaaDoor.Q
end
section
namespace Go.Proofs.YtnalcjgefbelnaaDoor.Q
open Go.RowKit Go.Proofs.YtnalcjgefbelnaaDoorW.PrintWords Go.Proofs.YtnalcjgefbelnaaDoorW.PrintLast Go.Proofs.YtnalcjgefbelnaaDoorW.PrintMore
set_option linter.unusedVariables false
set_option linter.unusedSimpArgs false

attribute [local go_sem] max2_int min2_int max_two min_two max_three min_three max_four min_four
/-! ### tinderref08_Children: function 34 -/
def tinderref08_Children.l0 : Nat → List (S44) → Int → List Int → Int → Option (List Int)
  | 0, _, _, _, _ => none
  | k + 1, x0, x1, x5, x6 => if x6 < (x0.length : Int) then (if x1 ≥ 0 then (if 0 ≤ x6 then (if ((rd_T44 x0 x6).f2) = x1 then (if x5.length < 17592186044416 then (tinderref08_Children.l0 k x0 x1 (x5 ++ [x6]) (wrap64 (x6 + 1))) else (none)) else (tinderref08_Children.l0 k x0 x1 x5 (wrap64 (x6 + 1)))) else (none)) else (tinderref08_Children.l0 k x0 x1 x5 (wrap64 (x6 + 1)))) else (some x5)
def tinderref08_Children.f (k : Nat) (l0 : List (S44)) (a1 : Int) : Option (List Int) := tinderref08_Children.l0 k l0 a1 ([] : List Int) 0

end Go.Proofs.YtnalcjgefbelnaaDoor.Q
end
section
namespace Go.Proofs.YtnalcjgefbelnaaDoor.Q
open Go.RowKit Go.Proofs.YtnalcjgefbelnaaDoorW.PrintWords Go.Proofs.YtnalcjgefbelnaaDoorW.PrintLast Go.Proofs.YtnalcjgefbelnaaDoorW.PrintMore
set_option linter.unusedVariables false
set_option linter.unusedSimpArgs false

attribute [local go_sem] max2_int min2_int max_two min_two max_three min_three max_four min_four
/-! ### tinderlaw08_ints: function 32 -/
def tinderlaw08_ints.l0 : Nat → List Int → List Int → Int → Option (Bool)
  | 0, _, _, _ => none
  | k + 1, x0, x1, x5 => if x5 < (x0.length : Int) then (if 0 ≤ x5 then (if x5 < (x1.length : Int) then (if (rd x0 x5) = (rd x1 x5) then (tinderlaw08_ints.l0 k x0 x1 (wrap64 (x5 + 1))) else (some false)) else (none)) else (none)) else (some true)
def tinderlaw08_ints.f (k : Nat) (l0 : List Int) (l1 : List Int) : Option (Bool) := if (l0.length : Int) = (l1.length : Int) then (tinderlaw08_ints.l0 k l0 l1 0) else (some false)

end Go.Proofs.YtnalcjgefbelnaaDoor.Q
end
section
set_option linter.unusedSimpArgs false
set_option linter.unusedVariables false
namespace Go.Proofs.YtnalcjgefbelnaaDoor.Q
open Go.RowKit Go.Proofs.YtnalcjgefbelnaaDoorW.PrintWords Go.Proofs.YtnalcjgefbelnaaDoorW.PrintLast
/-- What Get answers. -/
def getF (t : List S44) (n : Int) (s : ByteArray) : List Int × Int := if plcF t n s < 0 then ([], 2) else ((rd_T53 (rd_T44 t n).f3 (plcF t n s)).f1, 0)
/-- The name at a place, or none behind the last. -/
def nameF (l : List S53) (i : Int) : ByteArray := if i < l.length then (rd_T53 l i).f0 else ⟨#[]⟩
def nextF (t : List S44) (n : Int) (s : ByteArray) : ByteArray × Int := if plcF t n s < 0 ∧ s.toList ≠ [] then (⟨#[]⟩, 2) else (nameF (rd_T44 t n).f3 (plcF t n s + 1), 0)
theorem plc_range (t : List S44) (n : Int) (s : ByteArray) : -1 ≤ plcF t n s ∧ plcF t n s < (rd_T44 t n).f3.length := idxP_range _ _
theorem place_eq8 {t : List S44} {n : Int} (s : ByteArray) (he : tree_check.f t n = some 0) : tree_place.f t n s = some (if plcF t n s < 0 then (0, 2) else (plcF t n s, 0)) := by
  unfold tree_place.f
  rw [he, Option.bind_some, if_pos rfl]
  split <;> rfl
theorem place_bad {t : List S44} {n e : Int} (s : ByteArray) (he : tree_check.f t n = some e) (h0 : e ≠ 0) : tree_place.f t n s = some (0, e) := by
  unfold tree_place.f
  rw [he, Option.bind_some, if_neg h0]
theorem check_kinds {t : List S44} {n e : Int} (he : tree_check.f t n = some e) : e = 0 ∨ e = 1 ∨ e = 19 := by
  unfold tree_check.f tree_Formed.f at he
  rw [Option.bind_some] at he
  split at he
  · split at he
    · exact .inr (.inr (Option.some.inj he).symm)
    · split at he
      · exact .inr (.inr (Option.some.inj he).symm)
      · exact .inl (Option.some.inj he).symm
  · exact .inr (.inl (Option.some.inj he).symm)
theorem props_len {l : List S53} (h : propsF l = true) : l.length ≤ 16 := by
  unfold propsF at h
  simp only [Bool.and_eq_true, decide_eq_true_eq] at h
  exact h.1
theorem props_at {l : List S53} (h : propsF l = true) (i : Int) (h0 : 0 ≤ i) (h1 : i < l.length) : namedF (rd_T53 l i).f0 = true ∧ (rd_T53 l i).f1.length ≤ 256 ∧ (l.take i.toNat).any (isP (rd_T53 l i).f0) = false := by
  unfold propsF at h
  simp only [Bool.and_eq_true, decide_eq_true_eq] at h
  have h2 := List.all_eq_true.1 h.2 i.toNat (List.mem_range.2 (by omega))
  unfold pOk at h2
  simp only [Bool.and_eq_true, decide_eq_true_eq, Bool.not_eq_true'] at h2
  exact h2
theorem next_bad {t : List S44} {n e : Int} (s : ByteArray) (he : tree_check.f t n = some e) (h0 : e ≠ 0) (k : Nat) (hk : 1 ≤ k) : tree_Next.f k t n s = some (⟨#[]⟩, e) := by
  obtain ⟨k, rfl⟩ : ∃ m, k = m + 1 := ⟨k - 1, by omega⟩
  have hk2 := check_kinds he
  unfold tree_Next.f
  rw [place_bad s he h0, Option.bind_some, if_neg (show ¬ e = 2 by omega), tree_Next.j0, if_neg Bool.false_ne_true, if_neg h0]
theorem next_eq {t : List S44} {n : Int} (s : ByteArray) (he : tree_check.f t n = some 0) (k : Nat) (hk : 1 ≤ k) : tree_Next.f k t n s = some (nextF t n s) := by
  obtain ⟨k, rfl⟩ : ∃ m, k = m + 1 := ⟨k - 1, by omega⟩
  obtain ⟨h0, h1⟩ := check_in he
  have hr := plc_range t n s
  have hp3 := props_len (node_props (check_form he) n h0 h1)
  unfold tree_Next.f nextF nameF
  rw [place_eq8 s he, Option.bind_some]
  by_cases hp : plcF t n s < 0
  · have e1 : plcF t n s = -1 := by omega
    rw [if_pos hp, if_pos rfl]
    by_cases hs : s.toList = []
    · rw [beq_iff_eq.2 hs, tree_Next.j0, if_pos rfl, if_pos h0, if_pos h1, if_neg (show ¬ (plcF t n s < 0 ∧ s.toList ≠ []) from fun h => h.2 hs), e1]
      by_cases hl : ((-1 : Int) + 1) = ((rd_T44 t n).f3.length : Int)
      · rw [if_pos hl, if_neg (by omega)]
      · rw [if_neg hl, if_pos (by decide), if_pos (by omega), if_pos (by omega)]
    · rw [beq_eq_false_iff_ne.2 hs, tree_Next.j0, if_neg Bool.false_ne_true, if_neg (by decide), if_pos ⟨hp, hs⟩]
  · rw [if_neg hp, if_neg (show ¬ ((0 : Int) = 2) by decide), tree_Next.j0, if_neg Bool.false_ne_true, if_pos rfl, if_pos h0, if_pos h1, if_neg (show ¬ (plcF t n s < 0 ∧ s.toList ≠ []) from fun h => hp h.1)]
    have hw : wrap64 (plcF t n s + 1) = plcF t n s + 1 := by unfold wrap64; omega
    show (if wrap64 (plcF t n s + 1) = ((rd_T44 t n).f3.length : Int) then _ else _) = _
    rw [hw]
    by_cases hl : plcF t n s + 1 = ((rd_T44 t n).f3.length : Int)
    · rw [if_pos hl, if_neg (by omega)]
    · rw [if_neg hl, if_pos (by omega), if_pos (by omega), if_pos (by omega)]
end Go.Proofs.YtnalcjgefbelnaaDoor.Q
end
section
namespace Go.Proofs.YtnalcjgefbelnaaDoor.Q
open Go.RowKit Go.Proofs.YtnalcjgefbelnaaDoorW.PrintWords Go.Proofs.YtnalcjgefbelnaaDoorW.PrintLast Go.Proofs.YtnalcjgefbelnaaDoorW.PrintMore
set_option linter.unusedVariables false
set_option linter.unusedSimpArgs false

attribute [local go_sem] max2_int min2_int max_two min_two max_three min_three max_four min_four
/-! ### tinderlaw08_TreeGoes: function 7 -/
def tinderlaw08_TreeGoes.l0 : Nat → List (S44) → Int → ByteArray → Int → Option (Bool)
  | 0, _, _, _, _ => none
  | k + 1, x0, x1, x5, x7 => if 0 ≤ x1 then (if x1 < (x0.length : Int) then (if x7 < (((rd_T44 x0 x1).f3).length : Int) then (if 0 ≤ x7 then (if x5.toList = ((rd_T53 ((rd_T44 x0 x1).f3) x7).f0).toList then ((tree_Next.f k x0 x1 x5).bind fun bt8007 => (if bt8007.2 = 0 then (tinderlaw08_TreeGoes.l0 k x0 x1 bt8007.1 (wrap64 (x7 + 1))) else (some false))) else (some false)) else (none)) else (some (x5.toList == ([] : List UInt8)))) else (none)) else (none)
def tinderlaw08_TreeGoes.f (k : Nat) (l0 : List (S44)) (a1 : Int) : Option (Bool) := (tinderlaw08_alive.f).bind fun t8001 => (if t8001 = true then ((tree_Next.f k l0 a1 (⟨#[]⟩ : ByteArray)).bind fun bt8002 => (if bt8002.2 = 0 then (tinderlaw08_TreeGoes.l0 k l0 a1 bt8002.1 0) else (some (bt8002.1.toList == ([] : List UInt8))))) else (some false))
set_option maxHeartbeats 8000000 in
set_option maxRecDepth 100000 in
theorem tinderlaw08_TreeGoes.calls (k : Nat) (A0 : Option Addr) (c0 : Nat) (l0 : List (S44)) (a1 : Int) (r : Bool) (w : World) (ht : QB.Tabs w) (hr0 : Kd.C k44 w A0 l0.length l0) (hc0 : l0.length ≤ c0) (h : tinderlaw08_TreeGoes.f k l0 a1 = some r) :
    Calls Tryd.prog 7 #[.slice A0 l0.length c0, .int .i64 a1] w fun e w' => e = .returned (.bool r) ∧ Below w.heap.size w w' := by
  have HR0 := Aside0.mk hr0
  have HC0 := Aside0.mk hc0
  clear hr0 hc0
  have HB := Aside0.mk (Below.refl w.heap.size w)
  have H : ((tinderlaw08_alive.f).bind fun t8001 => (if t8001 = true then ((tree_Next.f k l0 a1 (⟨#[]⟩ : ByteArray)).bind fun bt8002 => (if bt8002.2 = 0 then (tinderlaw08_TreeGoes.l0 k l0 a1 bt8002.1 0) else (some (bt8002.1.toList == ([] : List UInt8))))) else (some false))) = some r := h
  clear h
  replace H := Option.bind_eq_some_iff.mp H
  obtain ⟨t8001, A30, H⟩ := H
  replace H : (if t8001 = true then ((tree_Next.f k l0 a1 (⟨#[]⟩ : ByteArray)).bind fun bt8002 => (if bt8002.2 = 0 then (tinderlaw08_TreeGoes.l0 k l0 a1 bt8002.1 0) else (some (bt8002.1.toList == ([] : List UInt8))))) else (some false)) = some r := H
  have A3 := Aside0.mk A30
  clear A30
  by_cases c4 : t8001 = true
  · subst c4
    have H1 : ((tree_Next.f k l0 a1 (⟨#[]⟩ : ByteArray)).bind fun bt8002 => (if bt8002.2 = 0 then (tinderlaw08_TreeGoes.l0 k l0 a1 bt8002.1 0) else (some (bt8002.1.toList == ([] : List UInt8))))) = some r := by rw [if_pos rfl] at H; exact H
    clear H
    have H := H1
    clear H1
    replace H := Option.bind_eq_some_iff.mp H
    obtain ⟨⟨t8002, t8003⟩, A50, H⟩ := H
    replace H : (if t8003 = 0 then (tinderlaw08_TreeGoes.l0 k l0 a1 t8002 0) else (some (t8002.toList == ([] : List UInt8)))) = some r := H
    have A5 := Aside0.mk A50
    clear A50
    by_cases c6 : t8003 = 0
    · rw [if_pos c6] at H
      have c6b0 : (t8003 == 0) = true := beq_iff_eq.mpr c6
      have c6b1 : (t8003 != 0) = false := bne_eq_false_iff_eq.mpr c6
      clear c6
      have H' := Aside0.mk H
      clear H
      go_enter Tryd.func7, Tryd.ntmps7
      go_wp2_with (first | ((with_reducible refine gate_callee (f := 11) rfl ?_); refine goesL_ (some 8) rfl rfl Tryd.func11 (by kernel_rfl) rfl #[] rfl (by (try simp only [List.map_toArray, List.map_cons, List.map_nil]); first | done | rfl | (simp only [List.length_drop, List.length_take]; rfl)) ?_; (with_reducible refine (tinderlaw08_alive.calls  true _ (QB.Tabs.below ht (by repeat (first | (with_reducible first | exact HB.out | apply below_alloc | apply pw_below_drewN | apply below_drew1 | refine below_set ?_ (Aside0.out (by assumption))) | exact HB.out))) A3.out).mono ?_); rintro e w7 ⟨rfl, hb⟩; refine ⟨_, rfl, ?_⟩; have n0_ := Aside0.mk (below_step (by repeat (first | (with_reducible first | exact HB.out | apply below_alloc | apply pw_below_drewN | apply below_drew1) | exact HB.out)) hb); clear HB; have HB := n0_; clear n0_; (try clear hb); (try clear hb2); (try clear hk); (try clear hi)) | ((with_reducible refine gate_callee (f := 27) rfl ?_); refine goesL_ (some 13) rfl rfl Tryd.func27 (by kernel_rfl) rfl #[.slice A0 l0.length c0, .int .i64 a1, .string (⟨#[]⟩ : ByteArray)] rfl (by (try simp only [List.map_toArray, List.map_cons, List.map_nil]); first | done | rfl | (simp only [List.length_drop, List.length_take]; rfl)) ?_; (with_reducible refine (tree_Next.calls k _ _ l0 a1 (⟨#[]⟩ : ByteArray) t8002 t8003 _ ?side1 ?side2 A5.out).mono ?_); (case side1 => repeat (first | exact (Kd.C_below HR0.out HB.out) | (with_reducible refine Kd.C_alloc ?_ _) | (with_reducible refine Kd.C_drewN ?_ _) | (with_reducible refine Kd.C_drew ?_))); (case side2 => exact HC0.out); rintro e w8 ⟨rfl, hb⟩; refine ⟨_, rfl, ?_⟩; have n0_ := Aside0.mk (below_step (by repeat (first | (with_reducible first | exact HB.out | apply below_alloc | apply pw_below_drewN | apply below_drew1) | exact HB.out)) hb); clear HB; have HB := n0_; clear n0_; (try clear hb); (try clear hb2); (try clear hk); (try clear hi)))
      go_loopg [5, 7] k (fun kq v5 v7 w' => ∃ (x5_1 : ByteArray) (x7_1 : Int), v5 = .string x5_1 ∧ v7 = .int .i64 x7_1 ∧ Aside0 (tinderlaw08_TreeGoes.l0 kq l0 a1 x5_1 x7_1 = some r) ∧ Aside0 (kq ≤ k) ∧ Aside0 (Below w.heap.size w w'))
      case atStart => exact ⟨(t8002), (0), (by first | rfl | (simp; done) | (simp [*]; done)), (by first | rfl | (simp; done) | (simp [*]; done)), H', ⟨Nat.le_refl _⟩, ⟨by repeat (first | (with_reducible first | exact HB.out | apply below_alloc | apply pw_below_drewN | apply below_drew1) | exact HB.out)⟩⟩
      case round =>
        clear H'
        try clear c1
        try clear c2
        try clear p2
        try clear c4
        try clear c6
        try clear c6b0
        try clear c6b1
        try clear c7
        obtain ⟨x5_1, x7_1, rfl, rfl, HA, HK1, HB⟩ := hrel
        cases gk with
        | zero => exact absurd HA.out (by simp [tinderlaw08_TreeGoes.l0])
        | succ k1 =>
          have H := HA.out
          clear HA
          simp only [tinderlaw08_TreeGoes.l0] at H
          by_cases c9 : 0 ≤ a1
          · rw [if_pos c9] at H
            have c9b0 : decide (0 ≤ a1) = true := decide_eq_true c9
            clear c9
            by_cases c10 : a1 < (l0.length : Int)
            · rw [if_pos c10] at H
              have c10b0 : decide (a1 < (l0.length : Int)) = true := decide_eq_true c10
              clear c10
              by_cases c11 : x7_1 < (((rd_T44 l0 a1).f3).length : Int)
              · rw [if_pos c11] at H
                have c11b0 : decide (x7_1 < (((rd_T44 l0 a1).f3).length : Int)) = true := decide_eq_true c11
                clear c11
                by_cases c12 : 0 ≤ x7_1
                · rw [if_pos c12] at H
                  have c12b0 : decide (0 ≤ x7_1) = true := decide_eq_true c12
                  clear c12
                  by_cases c13 : x5_1.toList = ((rd_T53 ((rd_T44 l0 a1).f3) x7_1).f0).toList
                  · rw [if_pos c13] at H
                    have c13b0 : (x5_1.toList == ((rd_T53 ((rd_T44 l0 a1).f3) x7_1).f0).toList) = true := beq_iff_eq.mpr c13
                    have c13b1 : (x5_1.toList != ((rd_T53 ((rd_T44 l0 a1).f3) x7_1).f0).toList) = false := bne_eq_false_iff_eq.mpr c13
                    clear c13
                    replace H := Option.bind_eq_some_iff.mp H
                    obtain ⟨⟨t8007, t8008⟩, A140, H⟩ := H
                    replace H : (if t8008 = 0 then (tinderlaw08_TreeGoes.l0 k1 l0 a1 t8007 (wrap64 (x7_1 + 1))) else (some false)) = some r := H
                    have A14 := Aside0.mk A140
                    clear A140
                    by_cases c15 : t8008 = 0
                    · rw [if_pos c15] at H
                      have c15b0 : (t8008 == 0) = true := beq_iff_eq.mpr c15
                      have c15b1 : (t8008 != 0) = false := bne_eq_false_iff_eq.mpr c15
                      clear c15
                      have H' := Aside0.mk H
                      clear H
                      have p8004 : 0 ≤ (a1 : Int) := of_decide_eq_true (by first | (with_reducible assumption) | assumption)
                      have q8004 : a1 < (l0.length : Int) := of_decide_eq_true (by first | (with_reducible assumption) | assumption)
                      obtain ⟨ad8004, A8004_1, c8004_1, A8004_3, c8004_3, A8004_4, c8004_4, e8004, hx8004_0, hx8004_1, hx8004_2, hx8004_3, hx8004_4, hl8004_1, hi8004_1, hl8004_3, hi8004_3, hl8004_4, hi8004_4⟩ := at_T44 HR0.out a1 p8004 q8004
                      cases e8004
                      replace hx8004_0 := (HB.out.cell (World.block_lt_of_cell? w _ hx8004_0)).trans hx8004_0
                      replace hx8004_1 := (HB.out.cell (World.block_lt_of_cell? w _ hx8004_1)).trans hx8004_1
                      replace hx8004_2 := (HB.out.cell (World.block_lt_of_cell? w _ hx8004_2)).trans hx8004_2
                      replace hx8004_3 := (HB.out.cell (World.block_lt_of_cell? w _ hx8004_3)).trans hx8004_3
                      replace hx8004_4 := (HB.out.cell (World.block_lt_of_cell? w _ hx8004_4)).trans hx8004_4
                      have HR8004_1 := Aside0.mk hi8004_1
                      have HC8004_1 := Aside0.mk hl8004_1
                      clear hi8004_1 hl8004_1
                      have HR8004_3 := Aside0.mk hi8004_3
                      have HC8004_3 := Aside0.mk hl8004_3
                      clear hi8004_3 hl8004_3
                      have HR8004_4 := Aside0.mk hi8004_4
                      have HC8004_4 := Aside0.mk hl8004_4
                      clear hi8004_4 hl8004_4
                      replace p8004 := eq_true p8004
                      replace q8004 := eq_true q8004
                      have p8005 : 0 ≤ (a1 : Int) := of_decide_eq_true (by first | (with_reducible assumption) | assumption)
                      have q8005 : a1 < (l0.length : Int) := of_decide_eq_true (by first | (with_reducible assumption) | assumption)
                      obtain ⟨ad8005, A8005_1, c8005_1, A8005_3, c8005_3, A8005_4, c8005_4, e8005, hx8005_0, hx8005_1, hx8005_2, hx8005_3, hx8005_4, hl8005_1, hi8005_1, hl8005_3, hi8005_3, hl8005_4, hi8005_4⟩ := at_T44 HR0.out a1 p8005 q8005
                      obtain rfl : ad8004 = ad8005 := (by injection e8005)
                      replace hx8005_0 := (HB.out.cell (World.block_lt_of_cell? w _ hx8005_0)).trans hx8005_0
                      replace hx8005_1 := (HB.out.cell (World.block_lt_of_cell? w _ hx8005_1)).trans hx8005_1
                      replace hx8005_2 := (HB.out.cell (World.block_lt_of_cell? w _ hx8005_2)).trans hx8005_2
                      replace hx8005_3 := (HB.out.cell (World.block_lt_of_cell? w _ hx8005_3)).trans hx8005_3
                      replace hx8005_4 := (HB.out.cell (World.block_lt_of_cell? w _ hx8005_4)).trans hx8005_4
                      have HR8005_1 := Aside0.mk hi8005_1
                      have HC8005_1 := Aside0.mk hl8005_1
                      clear hi8005_1 hl8005_1
                      have HR8005_3 := Aside0.mk hi8005_3
                      have HC8005_3 := Aside0.mk hl8005_3
                      clear hi8005_3 hl8005_3
                      have HR8005_4 := Aside0.mk hi8005_4
                      have HC8005_4 := Aside0.mk hl8005_4
                      clear hi8005_4 hl8005_4
                      replace p8005 := eq_true p8005
                      replace q8005 := eq_true q8005
                      have ea_ := Option.some.inj (hx8004_1.symm.trans hx8005_1)
                      injection ea_ with ea_ en_ ec_
                      subst ea_
                      subst ec_
                      clear en_
                      have ea_ := Option.some.inj (hx8004_3.symm.trans hx8005_3)
                      injection ea_ with ea_ en_ ec_
                      subst ea_
                      subst ec_
                      clear en_
                      have ea_ := Option.some.inj (hx8004_4.symm.trans hx8005_4)
                      injection ea_ with ea_ en_ ec_
                      subst ea_
                      subst ec_
                      clear en_
                      have p8006 : 0 ≤ (x7_1 : Int) := of_decide_eq_true (by first | (with_reducible assumption) | assumption)
                      have q8006 : x7_1 < (((rd_T44 l0 a1).f3).length : Int) := of_decide_eq_true (by first | (with_reducible assumption) | assumption)
                      obtain ⟨ad8006, A8006_1, c8006_1, e8006, hx8006_0, hx8006_1, hl8006_1, hi8006_1⟩ := at_T53 HR8005_3.out x7_1 p8006 q8006
                      cases e8006
                      replace hx8006_0 := (HB.out.cell (World.block_lt_of_cell? w _ hx8006_0)).trans hx8006_0
                      replace hx8006_1 := (HB.out.cell (World.block_lt_of_cell? w _ hx8006_1)).trans hx8006_1
                      have HR8006_1 := Aside0.mk hi8006_1
                      have HC8006_1 := Aside0.mk hl8006_1
                      clear hi8006_1 hl8006_1
                      replace p8006 := eq_true p8006
                      replace q8006 := eq_true q8006
                      go_wp2_with (first | ((with_reducible refine gate_callee (f := 27) rfl ?_); refine goesL_ (some 45) rfl rfl Tryd.func27 (by kernel_rfl) rfl #[.slice (some ad8004) l0.length c0, .int .i64 a1, .string x5_1] rfl (by (try simp only [List.map_toArray, List.map_cons, List.map_nil]); first | done | rfl | (simp only [List.length_drop, List.length_take]; rfl)) ?_; (with_reducible refine (tree_Next.calls k1 _ _ l0 a1 x5_1 t8007 t8008 _ ?side1 ?side2 A14.out).mono ?_); (case side1 => repeat (first | exact (Kd.C_below HR0.out HB.out) | (with_reducible refine Kd.C_alloc ?_ _) | (with_reducible refine Kd.C_drewN ?_ _) | (with_reducible refine Kd.C_drew ?_))); (case side2 => exact HC0.out); rintro e w16 ⟨rfl, hb⟩; refine ⟨_, rfl, ?_⟩; have n0_ := Aside0.mk (below_step (by repeat (first | (with_reducible first | exact HB.out | apply below_alloc | apply pw_below_drewN | apply below_drew1) | exact HB.out)) hb); clear HB; have HB := n0_; clear n0_; (try clear hb); (try clear hb2); (try clear hk); (try clear hi)))
                      go_roundg k1
                      case measure => have := HK1.out; omega
                      case rel => exact ⟨(t8007), (wrap64 (x7_1 + 1)), (by first | rfl | (simp; done) | (simp [*]; done)), (by first | rfl | (simp; done) | (simp [*]; done)), H', ⟨by have := HK1.out; omega⟩, ⟨by repeat (first | (with_reducible first | exact HB.out | apply below_alloc | apply pw_below_drewN | apply below_drew1) | exact HB.out)⟩⟩
                    · rw [if_neg c15] at H
                      have c15b0 : (t8008 == 0) = false := beq_eq_false_iff_ne.mpr c15
                      have c15b1 : (t8008 != 0) = true := bne_iff_ne.mpr c15
                      obtain rfl := Option.some.inj H
                      have p8004 : 0 ≤ (a1 : Int) := of_decide_eq_true (by first | (with_reducible assumption) | assumption)
                      have q8004 : a1 < (l0.length : Int) := of_decide_eq_true (by first | (with_reducible assumption) | assumption)
                      obtain ⟨ad8004, A8004_1, c8004_1, A8004_3, c8004_3, A8004_4, c8004_4, e8004, hx8004_0, hx8004_1, hx8004_2, hx8004_3, hx8004_4, hl8004_1, hi8004_1, hl8004_3, hi8004_3, hl8004_4, hi8004_4⟩ := at_T44 HR0.out a1 p8004 q8004
                      cases e8004
                      replace hx8004_0 := (HB.out.cell (World.block_lt_of_cell? w _ hx8004_0)).trans hx8004_0
                      replace hx8004_1 := (HB.out.cell (World.block_lt_of_cell? w _ hx8004_1)).trans hx8004_1
                      replace hx8004_2 := (HB.out.cell (World.block_lt_of_cell? w _ hx8004_2)).trans hx8004_2
                      replace hx8004_3 := (HB.out.cell (World.block_lt_of_cell? w _ hx8004_3)).trans hx8004_3
                      replace hx8004_4 := (HB.out.cell (World.block_lt_of_cell? w _ hx8004_4)).trans hx8004_4
                      have HR8004_1 := Aside0.mk hi8004_1
                      have HC8004_1 := Aside0.mk hl8004_1
                      clear hi8004_1 hl8004_1
                      have HR8004_3 := Aside0.mk hi8004_3
                      have HC8004_3 := Aside0.mk hl8004_3
                      clear hi8004_3 hl8004_3
                      have HR8004_4 := Aside0.mk hi8004_4
                      have HC8004_4 := Aside0.mk hl8004_4
                      clear hi8004_4 hl8004_4
                      replace p8004 := eq_true p8004
                      replace q8004 := eq_true q8004
                      have p8005 : 0 ≤ (a1 : Int) := of_decide_eq_true (by first | (with_reducible assumption) | assumption)
                      have q8005 : a1 < (l0.length : Int) := of_decide_eq_true (by first | (with_reducible assumption) | assumption)
                      obtain ⟨ad8005, A8005_1, c8005_1, A8005_3, c8005_3, A8005_4, c8005_4, e8005, hx8005_0, hx8005_1, hx8005_2, hx8005_3, hx8005_4, hl8005_1, hi8005_1, hl8005_3, hi8005_3, hl8005_4, hi8005_4⟩ := at_T44 HR0.out a1 p8005 q8005
                      obtain rfl : ad8004 = ad8005 := (by injection e8005)
                      replace hx8005_0 := (HB.out.cell (World.block_lt_of_cell? w _ hx8005_0)).trans hx8005_0
                      replace hx8005_1 := (HB.out.cell (World.block_lt_of_cell? w _ hx8005_1)).trans hx8005_1
                      replace hx8005_2 := (HB.out.cell (World.block_lt_of_cell? w _ hx8005_2)).trans hx8005_2
                      replace hx8005_3 := (HB.out.cell (World.block_lt_of_cell? w _ hx8005_3)).trans hx8005_3
                      replace hx8005_4 := (HB.out.cell (World.block_lt_of_cell? w _ hx8005_4)).trans hx8005_4
                      have HR8005_1 := Aside0.mk hi8005_1
                      have HC8005_1 := Aside0.mk hl8005_1
                      clear hi8005_1 hl8005_1
                      have HR8005_3 := Aside0.mk hi8005_3
                      have HC8005_3 := Aside0.mk hl8005_3
                      clear hi8005_3 hl8005_3
                      have HR8005_4 := Aside0.mk hi8005_4
                      have HC8005_4 := Aside0.mk hl8005_4
                      clear hi8005_4 hl8005_4
                      replace p8005 := eq_true p8005
                      replace q8005 := eq_true q8005
                      have ea_ := Option.some.inj (hx8004_1.symm.trans hx8005_1)
                      injection ea_ with ea_ en_ ec_
                      subst ea_
                      subst ec_
                      clear en_
                      have ea_ := Option.some.inj (hx8004_3.symm.trans hx8005_3)
                      injection ea_ with ea_ en_ ec_
                      subst ea_
                      subst ec_
                      clear en_
                      have ea_ := Option.some.inj (hx8004_4.symm.trans hx8005_4)
                      injection ea_ with ea_ en_ ec_
                      subst ea_
                      subst ec_
                      clear en_
                      have p8006 : 0 ≤ (x7_1 : Int) := of_decide_eq_true (by first | (with_reducible assumption) | assumption)
                      have q8006 : x7_1 < (((rd_T44 l0 a1).f3).length : Int) := of_decide_eq_true (by first | (with_reducible assumption) | assumption)
                      obtain ⟨ad8006, A8006_1, c8006_1, e8006, hx8006_0, hx8006_1, hl8006_1, hi8006_1⟩ := at_T53 HR8005_3.out x7_1 p8006 q8006
                      cases e8006
                      replace hx8006_0 := (HB.out.cell (World.block_lt_of_cell? w _ hx8006_0)).trans hx8006_0
                      replace hx8006_1 := (HB.out.cell (World.block_lt_of_cell? w _ hx8006_1)).trans hx8006_1
                      have HR8006_1 := Aside0.mk hi8006_1
                      have HC8006_1 := Aside0.mk hl8006_1
                      clear hi8006_1 hl8006_1
                      replace p8006 := eq_true p8006
                      replace q8006 := eq_true q8006
                      go_wp2_with (first | ((with_reducible refine gate_callee (f := 27) rfl ?_); refine goesL_ (some 45) rfl rfl Tryd.func27 (by kernel_rfl) rfl #[.slice (some ad8004) l0.length c0, .int .i64 a1, .string x5_1] rfl (by (try simp only [List.map_toArray, List.map_cons, List.map_nil]); first | done | rfl | (simp only [List.length_drop, List.length_take]; rfl)) ?_; (with_reducible refine (tree_Next.calls k1 _ _ l0 a1 x5_1 t8007 t8008 _ ?side1 ?side2 A14.out).mono ?_); (case side1 => repeat (first | exact (Kd.C_below HR0.out HB.out) | (with_reducible refine Kd.C_alloc ?_ _) | (with_reducible refine Kd.C_drewN ?_ _) | (with_reducible refine Kd.C_drew ?_))); (case side2 => exact HC0.out); rintro e w17 ⟨rfl, hb⟩; refine ⟨_, rfl, ?_⟩; have n0_ := Aside0.mk (below_step (by repeat (first | (with_reducible first | exact HB.out | apply below_alloc | apply pw_below_drewN | apply below_drew1) | exact HB.out)) hb); clear HB; have HB := n0_; clear n0_; (try clear hb); (try clear hb2); (try clear hk); (try clear hi)))
                      go_ret
                      exact ⟨by first | rfl | (simp [errW_none, errW_some] <;> rfl) | (simp [*, errW_none, errW_some] <;> rfl), by repeat (first | (with_reducible first | exact HB.out | apply below_alloc | apply pw_below_drewN | apply below_drew1) | exact HB.out)⟩
                  · rw [if_neg c13] at H
                    have c13b0 : (x5_1.toList == ((rd_T53 ((rd_T44 l0 a1).f3) x7_1).f0).toList) = false := beq_eq_false_iff_ne.mpr c13
                    have c13b1 : (x5_1.toList != ((rd_T53 ((rd_T44 l0 a1).f3) x7_1).f0).toList) = true := bne_iff_ne.mpr c13
                    obtain rfl := Option.some.inj H
                    have p8004 : 0 ≤ (a1 : Int) := of_decide_eq_true (by first | (with_reducible assumption) | assumption)
                    have q8004 : a1 < (l0.length : Int) := of_decide_eq_true (by first | (with_reducible assumption) | assumption)
                    obtain ⟨ad8004, A8004_1, c8004_1, A8004_3, c8004_3, A8004_4, c8004_4, e8004, hx8004_0, hx8004_1, hx8004_2, hx8004_3, hx8004_4, hl8004_1, hi8004_1, hl8004_3, hi8004_3, hl8004_4, hi8004_4⟩ := at_T44 HR0.out a1 p8004 q8004
                    cases e8004
                    replace hx8004_0 := (HB.out.cell (World.block_lt_of_cell? w _ hx8004_0)).trans hx8004_0
                    replace hx8004_1 := (HB.out.cell (World.block_lt_of_cell? w _ hx8004_1)).trans hx8004_1
                    replace hx8004_2 := (HB.out.cell (World.block_lt_of_cell? w _ hx8004_2)).trans hx8004_2
                    replace hx8004_3 := (HB.out.cell (World.block_lt_of_cell? w _ hx8004_3)).trans hx8004_3
                    replace hx8004_4 := (HB.out.cell (World.block_lt_of_cell? w _ hx8004_4)).trans hx8004_4
                    have HR8004_1 := Aside0.mk hi8004_1
                    have HC8004_1 := Aside0.mk hl8004_1
                    clear hi8004_1 hl8004_1
                    have HR8004_3 := Aside0.mk hi8004_3
                    have HC8004_3 := Aside0.mk hl8004_3
                    clear hi8004_3 hl8004_3
                    have HR8004_4 := Aside0.mk hi8004_4
                    have HC8004_4 := Aside0.mk hl8004_4
                    clear hi8004_4 hl8004_4
                    replace p8004 := eq_true p8004
                    replace q8004 := eq_true q8004
                    have p8005 : 0 ≤ (a1 : Int) := of_decide_eq_true (by first | (with_reducible assumption) | assumption)
                    have q8005 : a1 < (l0.length : Int) := of_decide_eq_true (by first | (with_reducible assumption) | assumption)
                    obtain ⟨ad8005, A8005_1, c8005_1, A8005_3, c8005_3, A8005_4, c8005_4, e8005, hx8005_0, hx8005_1, hx8005_2, hx8005_3, hx8005_4, hl8005_1, hi8005_1, hl8005_3, hi8005_3, hl8005_4, hi8005_4⟩ := at_T44 HR0.out a1 p8005 q8005
                    obtain rfl : ad8004 = ad8005 := (by injection e8005)
                    replace hx8005_0 := (HB.out.cell (World.block_lt_of_cell? w _ hx8005_0)).trans hx8005_0
                    replace hx8005_1 := (HB.out.cell (World.block_lt_of_cell? w _ hx8005_1)).trans hx8005_1
                    replace hx8005_2 := (HB.out.cell (World.block_lt_of_cell? w _ hx8005_2)).trans hx8005_2
                    replace hx8005_3 := (HB.out.cell (World.block_lt_of_cell? w _ hx8005_3)).trans hx8005_3
                    replace hx8005_4 := (HB.out.cell (World.block_lt_of_cell? w _ hx8005_4)).trans hx8005_4
                    have HR8005_1 := Aside0.mk hi8005_1
                    have HC8005_1 := Aside0.mk hl8005_1
                    clear hi8005_1 hl8005_1
                    have HR8005_3 := Aside0.mk hi8005_3
                    have HC8005_3 := Aside0.mk hl8005_3
                    clear hi8005_3 hl8005_3
                    have HR8005_4 := Aside0.mk hi8005_4
                    have HC8005_4 := Aside0.mk hl8005_4
                    clear hi8005_4 hl8005_4
                    replace p8005 := eq_true p8005
                    replace q8005 := eq_true q8005
                    have ea_ := Option.some.inj (hx8004_1.symm.trans hx8005_1)
                    injection ea_ with ea_ en_ ec_
                    subst ea_
                    subst ec_
                    clear en_
                    have ea_ := Option.some.inj (hx8004_3.symm.trans hx8005_3)
                    injection ea_ with ea_ en_ ec_
                    subst ea_
                    subst ec_
                    clear en_
                    have ea_ := Option.some.inj (hx8004_4.symm.trans hx8005_4)
                    injection ea_ with ea_ en_ ec_
                    subst ea_
                    subst ec_
                    clear en_
                    have p8006 : 0 ≤ (x7_1 : Int) := of_decide_eq_true (by first | (with_reducible assumption) | assumption)
                    have q8006 : x7_1 < (((rd_T44 l0 a1).f3).length : Int) := of_decide_eq_true (by first | (with_reducible assumption) | assumption)
                    obtain ⟨ad8006, A8006_1, c8006_1, e8006, hx8006_0, hx8006_1, hl8006_1, hi8006_1⟩ := at_T53 HR8005_3.out x7_1 p8006 q8006
                    cases e8006
                    replace hx8006_0 := (HB.out.cell (World.block_lt_of_cell? w _ hx8006_0)).trans hx8006_0
                    replace hx8006_1 := (HB.out.cell (World.block_lt_of_cell? w _ hx8006_1)).trans hx8006_1
                    have HR8006_1 := Aside0.mk hi8006_1
                    have HC8006_1 := Aside0.mk hl8006_1
                    clear hi8006_1 hl8006_1
                    replace p8006 := eq_true p8006
                    replace q8006 := eq_true q8006
                    go_wp2
                    go_ret
                    exact ⟨by first | rfl | (simp [errW_none, errW_some] <;> rfl) | (simp [*, errW_none, errW_some] <;> rfl), by repeat (first | (with_reducible first | exact HB.out | apply below_alloc | apply pw_below_drewN | apply below_drew1) | exact HB.out)⟩
                · rw [if_neg c12] at H
                  exact absurd H (by simp)
              · rw [if_neg c11] at H
                have c11b0 : decide (x7_1 < (((rd_T44 l0 a1).f3).length : Int)) = false := decide_eq_false c11
                clear c11
                obtain rfl := Option.some.inj H
                have p8004 : 0 ≤ (a1 : Int) := of_decide_eq_true (by first | (with_reducible assumption) | assumption)
                have q8004 : a1 < (l0.length : Int) := of_decide_eq_true (by first | (with_reducible assumption) | assumption)
                obtain ⟨ad8004, A8004_1, c8004_1, A8004_3, c8004_3, A8004_4, c8004_4, e8004, hx8004_0, hx8004_1, hx8004_2, hx8004_3, hx8004_4, hl8004_1, hi8004_1, hl8004_3, hi8004_3, hl8004_4, hi8004_4⟩ := at_T44 HR0.out a1 p8004 q8004
                cases e8004
                replace hx8004_0 := (HB.out.cell (World.block_lt_of_cell? w _ hx8004_0)).trans hx8004_0
                replace hx8004_1 := (HB.out.cell (World.block_lt_of_cell? w _ hx8004_1)).trans hx8004_1
                replace hx8004_2 := (HB.out.cell (World.block_lt_of_cell? w _ hx8004_2)).trans hx8004_2
                replace hx8004_3 := (HB.out.cell (World.block_lt_of_cell? w _ hx8004_3)).trans hx8004_3
                replace hx8004_4 := (HB.out.cell (World.block_lt_of_cell? w _ hx8004_4)).trans hx8004_4
                have HR8004_1 := Aside0.mk hi8004_1
                have HC8004_1 := Aside0.mk hl8004_1
                clear hi8004_1 hl8004_1
                have HR8004_3 := Aside0.mk hi8004_3
                have HC8004_3 := Aside0.mk hl8004_3
                clear hi8004_3 hl8004_3
                have HR8004_4 := Aside0.mk hi8004_4
                have HC8004_4 := Aside0.mk hl8004_4
                clear hi8004_4 hl8004_4
                replace p8004 := eq_true p8004
                replace q8004 := eq_true q8004
                go_wp2
                go_ret
                exact ⟨by first | rfl | (simp [errW_none, errW_some] <;> rfl) | (simp [*, errW_none, errW_some] <;> rfl), by repeat (first | (with_reducible first | exact HB.out | apply below_alloc | apply pw_below_drewN | apply below_drew1) | exact HB.out)⟩
            · rw [if_neg c10] at H
              exact absurd H (by simp)
          · rw [if_neg c9] at H
            exact absurd H (by simp)
    · rw [if_neg c6] at H
      have c6b0 : (t8003 == 0) = false := beq_eq_false_iff_ne.mpr c6
      have c6b1 : (t8003 != 0) = true := bne_iff_ne.mpr c6
      obtain rfl := Option.some.inj H
      go_enter Tryd.func7, Tryd.ntmps7
      go_wp2_with (first | ((with_reducible refine gate_callee (f := 11) rfl ?_); refine goesL_ (some 8) rfl rfl Tryd.func11 (by kernel_rfl) rfl #[] rfl (by (try simp only [List.map_toArray, List.map_cons, List.map_nil]); first | done | rfl | (simp only [List.length_drop, List.length_take]; rfl)) ?_; (with_reducible refine (tinderlaw08_alive.calls  true _ (QB.Tabs.below ht (by repeat (first | (with_reducible first | exact HB.out | apply below_alloc | apply pw_below_drewN | apply below_drew1 | refine below_set ?_ (Aside0.out (by assumption))) | exact HB.out))) A3.out).mono ?_); rintro e w18 ⟨rfl, hb⟩; refine ⟨_, rfl, ?_⟩; have n0_ := Aside0.mk (below_step (by repeat (first | (with_reducible first | exact HB.out | apply below_alloc | apply pw_below_drewN | apply below_drew1) | exact HB.out)) hb); clear HB; have HB := n0_; clear n0_; (try clear hb); (try clear hb2); (try clear hk); (try clear hi)) | ((with_reducible refine gate_callee (f := 27) rfl ?_); refine goesL_ (some 13) rfl rfl Tryd.func27 (by kernel_rfl) rfl #[.slice A0 l0.length c0, .int .i64 a1, .string (⟨#[]⟩ : ByteArray)] rfl (by (try simp only [List.map_toArray, List.map_cons, List.map_nil]); first | done | rfl | (simp only [List.length_drop, List.length_take]; rfl)) ?_; (with_reducible refine (tree_Next.calls k _ _ l0 a1 (⟨#[]⟩ : ByteArray) t8002 t8003 _ ?side1 ?side2 A5.out).mono ?_); (case side1 => repeat (first | exact (Kd.C_below HR0.out HB.out) | (with_reducible refine Kd.C_alloc ?_ _) | (with_reducible refine Kd.C_drewN ?_ _) | (with_reducible refine Kd.C_drew ?_))); (case side2 => exact HC0.out); rintro e w19 ⟨rfl, hb⟩; refine ⟨_, rfl, ?_⟩; have n0_ := Aside0.mk (below_step (by repeat (first | (with_reducible first | exact HB.out | apply below_alloc | apply pw_below_drewN | apply below_drew1) | exact HB.out)) hb); clear HB; have HB := n0_; clear n0_; (try clear hb); (try clear hb2); (try clear hk); (try clear hi)))
      go_ret
      exact ⟨by first | rfl | (simp [errW_none, errW_some] <;> rfl) | (simp [*, errW_none, errW_some] <;> rfl), by repeat (first | (with_reducible first | exact HB.out | apply below_alloc | apply pw_below_drewN | apply below_drew1) | exact HB.out)⟩
  · replace c4 := Bool.eq_false_iff.mpr c4
    subst c4
    have H1 : (some false) = some r := by rw [if_neg (show ¬ (false = true) by decide)] at H; exact H
    clear H
    have H := H1
    clear H1
    obtain rfl := Option.some.inj H
    go_enter Tryd.func7, Tryd.ntmps7
    go_wp2_with (first | ((with_reducible refine gate_callee (f := 11) rfl ?_); refine goesL_ (some 8) rfl rfl Tryd.func11 (by kernel_rfl) rfl #[] rfl (by (try simp only [List.map_toArray, List.map_cons, List.map_nil]); first | done | rfl | (simp only [List.length_drop, List.length_take]; rfl)) ?_; (with_reducible refine (tinderlaw08_alive.calls  false _ (QB.Tabs.below ht (by repeat (first | (with_reducible first | exact HB.out | apply below_alloc | apply pw_below_drewN | apply below_drew1 | refine below_set ?_ (Aside0.out (by assumption))) | exact HB.out))) A3.out).mono ?_); rintro e w20 ⟨rfl, hb⟩; refine ⟨_, rfl, ?_⟩; have n0_ := Aside0.mk (below_step (by repeat (first | (with_reducible first | exact HB.out | apply below_alloc | apply pw_below_drewN | apply below_drew1) | exact HB.out)) hb); clear HB; have HB := n0_; clear n0_; (try clear hb); (try clear hb2); (try clear hk); (try clear hi)))
    go_ret
    exact ⟨by first | rfl | (simp [errW_none, errW_some] <;> rfl) | (simp [*, errW_none, errW_some] <;> rfl), by repeat (first | (with_reducible first | exact HB.out | apply below_alloc | apply pw_below_drewN | apply below_drew1) | exact HB.out)⟩

end Go.Proofs.YtnalcjgefbelnaaDoor.Q
end
section
set_option linter.unusedSimpArgs false
set_option linter.unusedVariables false
namespace Go.Proofs.YtnalcjgefbelnaaDoor.Q
open Go.RowKit Go.Proofs.YtnalcjgefbelnaaDoorW.PrintWords Go.Proofs.YtnalcjgefbelnaaDoorW.PrintLast
theorem plc_at {l : List S53} (h : propsF l = true) (i : Int) (h0 : 0 ≤ i) (h1 : i < l.length) : idxP (isP (rd_T53 l i).f0) l = i := by
  have h2 := (props_at h i h0 h1).2.2
  have h3 := idxP_here (isP (rd_T53 l i).f0) z53 l i.toNat (fun j hj => by
    cases hh : isP (rd_T53 l i).f0 (l.getD j z53) with
    | false => rfl
    | true =>
      rw [List.any_eq_true.2 ⟨l.getD j z53, by
        rw [List.getD_eq_getElem?_getD, List.getElem?_eq_getElem (show j < l.length by omega)]
        refine List.mem_iff_getElem.2 ⟨j, by rw [List.length_take]; omega, ?_⟩
        rw [List.getElem_take]
        rfl, hh⟩] at h2
      cases h2) (by omega) (by
    rw [show l.getD i.toNat z53 = rd_T53 l i from rfl]
    unfold isP
    exact beq_self_eq_true _)
  rw [h3]
  omega
theorem plc_empty {l : List S53} (h : propsF l = true) : idxP (isP ⟨#[]⟩) l < 0 := by
  have h1 := idxP_any (isP ⟨#[]⟩) l
  have h2 : l.any (isP ⟨#[]⟩) = false := by
    cases ha : l.any (isP ⟨#[]⟩) with
    | false => rfl
    | true =>
      obtain ⟨x, hx, hp⟩ := List.any_eq_true.1 ha
      obtain ⟨j, hj, rfl⟩ := List.mem_iff_getElem.1 hx
      have h3 := (props_at h (j : Int) (by omega) (by omega)).1
      have e1 : rd_T53 l (j : Int) = l[j] := by
        unfold rd_T53
        rw [List.getD_eq_getElem?_getD, Int.toNat_natCast, List.getElem?_eq_getElem hj]
        rfl
      rw [e1] at h3
      unfold isP at hp
      rw [beq_iff_eq, empty_toList] at hp
      have h4 := (empty_iff _).1 hp
      unfold namedF at h3
      simp only [Bool.and_eq_true, decide_eq_true_eq] at h3
      omega
  rw [h2] at h1
  have := of_decide_eq_false h1
  omega
theorem goes_go (t : List S44) (n : Int) (he : tree_check.f t n = some 0) : ∀ (d k : Nat) (i : Int), 0 ≤ i → i + d = (rd_T44 t n).f3.length → d + 1 < k → tinderlaw08_TreeGoes.l0 k t n (nameF (rd_T44 t n).f3 i) i = some true
  | 0, k, i, h0, h1, hk => by
    obtain ⟨k, rfl⟩ : ∃ m, k = m + 1 := ⟨k - 1, by omega⟩
    obtain ⟨a0, a1⟩ := check_in he
    rw [tinderlaw08_TreeGoes.l0, if_pos a0, if_pos a1, if_neg (by omega)]
    unfold nameF
    rw [if_neg (by omega), empty_toList]
    rfl
  | d + 1, k, i, h0, h1, hk => by
    obtain ⟨k, rfl⟩ : ∃ m, k = m + 1 := ⟨k - 1, by omega⟩
    obtain ⟨a0, a1⟩ := check_in he
    have hp := node_props (check_form he) n a0 a1
    have hl := props_len hp
    have hw : wrap64 (i + 1) = i + 1 := by unfold wrap64; omega
    have hn : nameF (rd_T44 t n).f3 i = (rd_T53 (rd_T44 t n).f3 i).f0 := by unfold nameF; rw [if_pos (by omega)]
    have hx : nextF t n (rd_T53 (rd_T44 t n).f3 i).f0 = (nameF (rd_T44 t n).f3 (i + 1), 0) := by
      have hpl : plcF t n (rd_T53 (rd_T44 t n).f3 i).f0 = i := plc_at hp i h0 (by omega)
      unfold nextF
      rw [hpl, if_neg (fun h => by have := h.1; omega)]
    rw [hn, tinderlaw08_TreeGoes.l0, if_pos a0, if_pos a1, if_pos (by omega), if_pos h0, if_pos rfl, next_eq _ he k (by omega), Option.bind_some, hx, if_pos rfl, hw]
    exact goes_go t n he d k (i + 1) (by omega) (by omega) (by omega)
theorem treeGoes_row {w : World} (ht : QB.Tabs w) (A : Option Addr) (c : Nat) (z : List S44) (hC : Kd.C k44 w A z.length z) (hc : z.length ≤ c) (hg : TreeG z) (n : Int) (hn : (Lit.int .i64 n).wf = true) :
    Calls Tryd.prog 7 #[.slice A z.length c, .int .i64 n] w fun e w' => e = .returned (.bool true) ∧ Below w.heap.size w w' := by
  refine tinderlaw08_TreeGoes.calls 1000 A c z n true w ht hC hc ?_
  obtain ⟨e, he⟩ := check_some z n
  unfold tinderlaw08_TreeGoes.f
  rw [alive08_f, Option.bind_some, if_pos rfl]
  by_cases h0 : e = 0
  · subst h0
    obtain ⟨a0, a1⟩ := check_in he
    have hp := node_props (check_form he) n a0 a1
    have hl := props_len hp
    have hx : nextF z n ⟨#[]⟩ = (nameF (rd_T44 z n).f3 0, 0) := by
      have hpl : plcF z n ⟨#[]⟩ < 0 := plc_empty hp
      have hr := plc_range z n ⟨#[]⟩
      unfold nextF
      rw [if_neg (fun h => h.2 empty_toList), show plcF z n ⟨#[]⟩ + 1 = 0 by omega]
    rw [next_eq _ he 1000 (by decide), Option.bind_some, hx, if_pos rfl]
    exact goes_go z n he (rd_T44 z n).f3.length 1000 0 (Int.le_refl _) (by omega) (by omega)
  · rw [next_bad _ he h0 1000 (by decide), Option.bind_some, if_neg h0, empty_toList]
    rfl
end Go.Proofs.YtnalcjgefbelnaaDoor.Q
end
