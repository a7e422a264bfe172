/- Contracts of Go functions and plain facts, of several texts, one behind the other; no condition. -/
import Derived.Test.YtnalcjgefbelnaaDoorMTreeForms2
import Derived.Test.YtnalcjgefbelnaaDoorMTreeForms5
import Derived.Test.YtnalcjgefbelnaaDoorMTreeForms3
import Derived.Test.YtnalcjgefbelnaaDoorMTreeForms4
import Derived.ChangeArms
import Derived.OpenShut
import Derived.SizedLaws
section
namespace Go.Proofs.YtnalcjgefbelnaaDoor.Q
open Go.RowKit Go.Proofs.YtnalcjgefbelnaaDoorW.PrintWords Go.Proofs.YtnalcjgefbelnaaDoorW.PrintLast Go.Proofs.YtnalcjgefbelnaaDoorW.PrintMore
set_option linter.unusedVariables false
set_option linter.unusedSimpArgs false

attribute [local go_sem] max2_int min2_int max_two min_two max_three min_three max_four min_four
/-! ### prop_ShowUnit: function 72 -/
def prop_ShowUnit.l0 : Nat → List ByteArray → List Int → Int → Int → Option (ByteArray)
  | 0, _, _, _, _ => none
  | k + 1, x3, x9, x10, x11 => if x11 < x10 then (if 0 ≤ x11 then (if x11 < (x9.length : Int) then ((digit_Show.f (rd x9 x11) 16).bind fun bt73005 => (if x11 < (x3.length : Int) then (prop_ShowUnit.l0 k (x3.set (x11 : Int).toNat bt73005.1) x9 x10 (wrap64 (x11 + 1))) else (none))) else (none)) else (none)) else ((strings_Join.f x3 (⟨#[44]⟩ : ByteArray)).bind fun t73008 => (some t73008))
def prop_ShowUnit.f (k : Nat) (l0 : List Int) : Option (ByteArray) := if 0 ≤ (l0.length : Int) then (if ((l0.length : Int) : Int).toNat ≤ 17592186044416 then (prop_ShowUnit.l0 k (List.replicate ((l0.length : Int) : Int).toNat (⟨#[]⟩ : ByteArray)) l0 (l0.length : Int) 0) else (none)) else (none)
set_option maxHeartbeats 8000000 in
set_option maxRecDepth 100000 in
theorem prop_ShowUnit.calls (k : Nat) (A0 : Option Addr) (c0 : Nat) (l0 : List Int) (r : ByteArray) (w : World) (ht : QB.Tabs w) (hr0 : Kd.C (Kd.int .u32) w A0 l0.length l0) (hc0 : l0.length ≤ c0) (h : prop_ShowUnit.f k l0 = some r) :
    Calls Tryd.prog 72 #[.slice A0 l0.length c0] w fun e w' => e = .returned (.string r) ∧ Below w.heap.size w w' := by
  have HR0 := Aside0.mk hr0
  have HC0 := Aside0.mk hc0
  clear hr0 hc0
  have HB := Aside0.mk (Below.refl w.heap.size w)
  have H : (if 0 ≤ (l0.length : Int) then (if ((l0.length : Int) : Int).toNat ≤ 17592186044416 then (prop_ShowUnit.l0 k (List.replicate ((l0.length : Int) : Int).toNat (⟨#[]⟩ : ByteArray)) l0 (l0.length : Int) 0) else (none)) else (none)) = some r := h
  clear h
  by_cases c2 : 0 ≤ (l0.length : Int)
  · rw [if_pos c2] at H
    have c2b0 := eq_true c2
    have c2b1 : decide (0 ≤ (l0.length : Int)) = true := decide_eq_true c2
    clear c2
    by_cases c3 : ((l0.length : Int) : Int).toNat ≤ 17592186044416
    · rw [if_pos c3] at H
      have c3b0 := eq_true c3
      have c3b1 : decide (((l0.length : Int) : Int).toNat ≤ 17592186044416) = true := decide_eq_true c3
      clear c3
      obtain ⟨y73001, hy73001⟩ : ∃ y_ : List ByteArray, y_ = (List.replicate ((l0.length : Int) : Int).toNat (⟨#[]⟩ : ByteArray)) := ⟨_, rfl⟩
      replace H : (prop_ShowUnit.l0 k y73001 l0 (l0.length : Int) 0) = some r := by first | (rw [hy73001]; with_reducible exact H) | (have H2_ := (Option.bind_some _ _).symm.trans H; rw [hy73001]; with_reducible exact H2_) | (have H2_ := (Option.bind_some _ _).symm.trans H; with_reducible exact H2_) | with_reducible exact H | (rw [hy73001]; exact H) | exact H
      have Ny73001 := Aside0.mk hy73001
      clear hy73001
      have H' := Aside0.mk H
      clear H
      go_enter Tryd.func72, Tryd.ntmps72
      go_wp2_with (first | ((with_reducible refine gate_dst (N := 8) rfl ?_); refine Kd.R_make Kd.string _ 9 rfl (N := 8) rfl 107 _ _ rfl (l0.length : Int) rfl rfl Tryd.underlying107 (.string ⟨#[]⟩) 16 info9 rfl (by decide) (by omega) (⟨#[]⟩ : ByteArray) (ok := fun _ => True) (okp := fun _ => True) rfl (fun _ hk => hk) trivial (of_decide_eq_true (by first | (with_reducible assumption) | assumption)) (Nat.le_trans (Nat.mul_le_mul_right _ (of_decide_eq_true (by first | (with_reducible assumption) | assumption) : (l0.length : Int).toNat ≤ 17592186044416)) (by omega)) (Below.refl _ _) (Nat.le_refl _) ?_; intro v73002 w4 ho5 hb hg_ hnew_; clear hg_ hnew_; (first | rw [← Ny73001.out] at ho5 | (simp only [Int.reduceToNat] at ho5; rw [← Ny73001.out] at ho5)); have n0_ := Aside0.mk (Kd.R_lower ho5 (below_size (by repeat (first | (with_reducible first | exact HB.out | apply below_alloc | apply pw_below_drewN | apply below_drew1) | exact HB.out)))); have n1_ := Aside0.mk (below_step (by repeat (first | (with_reducible first | exact HB.out | apply below_alloc | apply pw_below_drewN | apply below_drew1) | exact HB.out)) hb); clear HB; have HO73003 := n0_; have HB := n1_; clear n0_ n1_; clear hb ho5))
      go_loopg [11] k (fun kq v11 w' => ∃ (x3_1 : List ByteArray) (x11_1 : Int), v11 = .int .i64 x11_1 ∧ Aside0 (prop_ShowUnit.l0 kq x3_1 l0 (l0.length : Int) x11_1 = some r) ∧ Aside0 (kq ≤ k) ∧ Aside0 (Kd.R Kd.string 9 w' w.heap.size (fun _ => True) v73002 x3_1) ∧ Aside0 (Below w.heap.size w w'))
      case atStart => exact ⟨(y73001), (0), (by first | rfl | (simp; done) | (simp [*]; done)), H', ⟨Nat.le_refl _⟩, ⟨by (with_reducible repeat (first | apply Kd.R_alloc | apply Kd.R_drewN | apply Kd.R_drew)); exact HO73003.out⟩, ⟨by repeat (first | (with_reducible first | exact HB.out | apply below_alloc | apply pw_below_drewN | apply below_drew1) | exact HB.out)⟩⟩
      case round =>
        clear H'
        try clear c2
        try clear c2b0
        try clear c2b1
        try clear p2
        try clear c3
        try clear c3b0
        try clear c3b1
        obtain ⟨x3_1, x11_1, rfl, HA, HK1, HO_3, HB⟩ := hrel
        cases gk with
        | zero => exact absurd HA.out (by simp [prop_ShowUnit.l0])
        | succ k1 =>
          have H := HA.out
          clear HA
          simp only [prop_ShowUnit.l0] at H
          by_cases c6 : x11_1 < (l0.length : Int)
          · rw [if_pos c6] at H
            have c6b0 : decide (x11_1 < (l0.length : Int)) = true := decide_eq_true c6
            clear c6
            by_cases c7 : 0 ≤ x11_1
            · rw [if_pos c7] at H
              have c7b0 : decide (0 ≤ x11_1) = true := decide_eq_true c7
              clear c7
              by_cases c8 : x11_1 < (l0.length : Int)
              · rw [if_pos c8] at H
                have c8b0 : decide (x11_1 < (l0.length : Int)) = true := decide_eq_true c8
                clear c8
                replace H := Option.bind_eq_some_iff.mp H
                obtain ⟨⟨t73005, t73006⟩, A90, H⟩ := H
                replace H : (if x11_1 < (x3_1.length : Int) then (prop_ShowUnit.l0 k1 (x3_1.set (x11_1 : Int).toNat t73005) l0 (l0.length : Int) (wrap64 (x11_1 + 1))) else (none)) = some r := H
                have A9 := Aside0.mk A90
                clear A90
                by_cases c10 : x11_1 < (x3_1.length : Int)
                · rw [if_pos c10] at H
                  have c10b0 : decide (x11_1 < (x3_1.length : Int)) = true := decide_eq_true c10
                  clear c10
                  obtain ⟨y73007, hy73007⟩ : ∃ y_ : List ByteArray, y_ = (x3_1.set (x11_1 : Int).toNat t73005) := ⟨_, rfl⟩
                  replace H : (prop_ShowUnit.l0 k1 y73007 l0 (l0.length : Int) (wrap64 (x11_1 + 1))) = some r := by first | (rw [hy73007]; with_reducible exact H) | (have H2_ := (Option.bind_some _ _).symm.trans H; rw [hy73007]; with_reducible exact H2_) | (have H2_ := (Option.bind_some _ _).symm.trans H; with_reducible exact H2_) | with_reducible exact H | (rw [hy73007]; exact H) | exact H
                  have Ny73007 := Aside0.mk hy73007
                  clear hy73007
                  have H' := Aside0.mk H
                  clear H
                  have p73004 : 0 ≤ (x11_1 : Int) := of_decide_eq_true (by first | (with_reducible assumption) | assumption)
                  have q73004 : x11_1 < (l0.length : Int) := of_decide_eq_true (by first | (with_reducible assumption) | assumption)
                  obtain ⟨ad73004, e73004, hx73004_0⟩ := Kd.at_int HR0.out x11_1 p73004 q73004
                  cases e73004
                  replace hx73004_0 := (HB.out.cell (World.block_lt_of_cell? w _ hx73004_0)).trans hx73004_0
                  replace p73004 := eq_true p73004
                  replace q73004 := eq_true q73004
                  go_wp2_with (first | ((with_reducible refine gate_callee (f := 82) rfl ?_); refine goesL_ (some 20) rfl rfl Tryd.func82 (by kernel_rfl) rfl #[.int .u32 (rd l0 x11_1), .int .u32 16] rfl (by (try simp only [List.map_toArray, List.map_cons, List.map_nil]); first | done | rfl | (simp only [List.length_drop, List.length_take]; rfl)) ?_; (with_reducible refine (digit_Show.calls (rd l0 x11_1) 16 t73005 t73006 _ (QB.Tabs.below ht (by repeat (first | (with_reducible first | exact HB.out | apply below_alloc | apply pw_below_drewN | apply below_drew1 | refine below_set ?_ (Aside0.out (by assumption))) | exact HB.out))) A9.out).mono ?_); rintro e w12 ⟨rfl, hb⟩; refine ⟨_, rfl, ?_⟩; have n0_ := Aside0.mk (Kd.R_below (by (with_reducible repeat (first | apply Kd.R_alloc | apply Kd.R_drewN | apply Kd.R_drew)); exact HO_3.out) hb); have n1_ := Aside0.mk (below_step (by repeat (first | (with_reducible first | exact HB.out | apply below_alloc | apply pw_below_drewN | apply below_drew1) | exact HB.out)) hb); clear HO_3; clear HB; have HO_3 := n0_; have HB := n1_; clear n0_ n1_; (try clear hb); (try clear hb2); (try clear hk); (try clear hi); have p11 : 0 ≤ (x11_1 : Int) := of_decide_eq_true (by first | (with_reducible assumption) | assumption); have q11 : (x11_1 : Int) < ((x3_1.length : Int) : Int) := of_decide_eq_true (by first | (with_reducible assumption) | assumption); obtain ⟨go11, co11, eo11, gb11, gl11, cl11, HG11⟩ := Kd.R_form HO_3.out (by omega); (first | cases eo11 | (injection eo11 with ea_ en_ ec_; (first | subst ea_ | (injection ea_ with ea_; subst ea_)); subst ec_; clear en_)); have GB11 := Aside0.mk gb11; have GG11 := Aside0.mk HG11; clear gb11 gl11 HG11; obtain ⟨hx11_0, hf11_0⟩ := Kd.R_celln (⟨#[]⟩ : ByteArray) HO_3.out (x11_1 : Int) p11 q11; replace p11 := eq_true p11; replace q11 := eq_true q11; obtain ⟨hy13_, hz13_⟩ := Kd.R_celln (⟨#[]⟩ : ByteArray) HO_3.out (x11_1 : Int) (of_decide_eq_true (by first | (with_reducible assumption) | assumption)) (of_decide_eq_true (by first | (with_reducible assumption) | assumption)); have HP13 := Kd.R_putg HO_3.out (x11_1 : Int) t73005) | ((with_reducible refine gate_store (t := 9) (p := 23) rfl ?_); refine store_event (t := 9) (p := 23) (v := ?vo_w14) (w1 := (w12.setCell ⟨go11, (x11_1 : Int).toNat, none⟩ (.string t73005))) ?hg ?ho ?hn ?hr ?_; (case ho => rfl); (case hg => rfl); (case hn => rfl); (case hr => first | (go_simp; done) | (go_simp; rfl)); intro w14 hw; have hg : w12.grownBy w14 (some go11) := (by rw [hw]; exact HP13.2); have hp_ : Kd.R Kd.string 9 w14 w.heap.size (fun _ => True) (.slice (some ⟨go11, 0, none⟩) x3_1.length co11) y73007 := (by rw [hw, Ny73007.out]; exact HP13.1); clear HP13; have n0_ := Aside0.mk (hp_); have n1_ := Aside0.mk ((by rw [hw]; exact below_set (HB.out) GB11.out : Below w.heap.size w w14)); clear HO_3; clear HB; have HO_3 := n0_; have HB := n1_; clear n0_ n1_; clear hg hw hp_))
                  go_roundg k1
                  case measure => have := HK1.out; omega
                  case rel => exact ⟨(y73007), (wrap64 (x11_1 + 1)), (by first | rfl | (simp; done) | (simp [*]; done)), H', ⟨by have := HK1.out; omega⟩, ⟨by (with_reducible repeat (first | apply Kd.R_alloc | apply Kd.R_drewN | apply Kd.R_drew)); exact HO_3.out⟩, ⟨by repeat (first | (with_reducible first | exact HB.out | apply below_alloc | apply pw_below_drewN | apply below_drew1) | exact HB.out)⟩⟩
                · rw [if_neg c10] at H
                  exact absurd H (by simp)
              · rw [if_neg c8] at H
                exact absurd H (by simp)
            · rw [if_neg c7] at H
              exact absurd H (by simp)
          · rw [if_neg c6] at H
            have c6b0 : decide (x11_1 < (l0.length : Int)) = false := decide_eq_false c6
            clear c6
            replace H := Option.bind_eq_some_iff.mp H
            obtain ⟨t73008, A150, H⟩ := H
            replace H : (some t73008) = some r := H
            have A15 := Aside0.mk A150
            clear A150
            obtain rfl := Option.some.inj H
            obtain ⟨Ao16, co16, eo16⟩ := Kd.R_slice HO_3.out
            subst eo16
            go_wp2_with (first | ((with_reducible refine gate_callee (f := 83) rfl ?_); refine goesL_ (some 26) rfl rfl Tryd.func83 (by kernel_rfl) rfl #[.slice Ao16 x3_1.length co16, .string (⟨#[44]⟩ : ByteArray)] rfl (by (try simp only [List.map_toArray, List.map_cons, List.map_nil]); first | done | rfl | (simp only [List.length_drop, List.length_take]; rfl)) ?_; (with_reducible refine (strings_Join.calls _ _ x3_1 (⟨#[44]⟩ : ByteArray) t73008 _ ?side1 ?side2 A15.out).mono ?_); (case side1 => repeat (first | exact (Kd.R_reads' HO_3.out).2.2 | (with_reducible refine Kd.C_alloc ?_ _) | (with_reducible refine Kd.C_drewN ?_ _) | (with_reducible refine Kd.C_drew ?_))); (case side2 => exact (Kd.R_reads' HO_3.out).2.1); rintro e w17 ⟨rfl, hb⟩; refine ⟨_, rfl, ?_⟩; have n0_ := Aside0.mk (Kd.R_below (by (with_reducible repeat (first | apply Kd.R_alloc | apply Kd.R_drewN | apply Kd.R_drew)); exact HO_3.out) hb); have n1_ := Aside0.mk (below_step (by repeat (first | (with_reducible first | exact HB.out | apply below_alloc | apply pw_below_drewN | apply below_drew1) | exact HB.out)) hb); clear HO_3; clear HB; have HO_3 := n0_; have HB := n1_; clear n0_ n1_; (try clear hb); (try clear hb2); (try clear hk); (try clear hi)))
            go_ret
            exact ⟨by first | rfl | (simp [errW_none, errW_some] <;> rfl) | (simp [*, errW_none, errW_some] <;> rfl), by repeat (first | (with_reducible first | exact HB.out | apply below_alloc | apply pw_below_drewN | apply below_drew1) | exact HB.out)⟩
    · rw [if_neg c3] at H
      exact absurd H (by simp)
  · rw [if_neg c2] at H
    exact absurd H (by simp)

end Go.Proofs.YtnalcjgefbelnaaDoor.Q
end
section
namespace Go.Proofs.YtnalcjgefbelnaaDoor.Q
open Go.RowKit Go.Proofs.YtnalcjgefbelnaaDoorW.PrintWords Go.Proofs.YtnalcjgefbelnaaDoorW.PrintLast Go.Proofs.YtnalcjgefbelnaaDoorW.PrintMore
def digS (d : Int) : ByteArray := ⟨[UInt8.ofNat (chN d.toNat)].toArray⟩
def preL (kq : Nat) (b u : Int) : List UInt8 := if kq = 0 then [] else showL b.toNat u.toNat
def tinderref02_Show.f (n b : Int) : Option (ByteArray × Int) := if 0 ≤ n ∧ n < 4294967296 then (if 2 ≤ b ∧ b ≤ 36 then some (showB b n, 0) else some (⟨#[]⟩, 1)) else none
end Go.Proofs.YtnalcjgefbelnaaDoor.Q
end
section
namespace Go.Proofs.YtnalcjgefbelnaaDoor.Q
open Go.RowKit Go.Proofs.YtnalcjgefbelnaaDoorW.PrintWords Go.Proofs.YtnalcjgefbelnaaDoorW.PrintLast Go.Proofs.YtnalcjgefbelnaaDoorW.PrintMore
set_option linter.unusedVariables false
set_option linter.unusedSimpArgs false

attribute [local go_sem] max2_int min2_int max_two min_two max_three min_three max_four min_four
/-! ### tinderref05_ShowUnit: function 75 -/
def tinderref05_ShowUnit.l0 : Nat → List Int → List Int → Int → Option (ByteArray)
  | 0, _, _, _ => none
  | k + 1, x0, x3, x4 => if x4 < (x0.length : Int) then (if x4 > 0 then (if x3.length < 140737488355328 then ((some (x3 ++ [44] : List Int)).bind fun y76001 => (if 0 ≤ x4 then ((tinderref02_Show.f (rd x0 x4) 16).bind fun bt76005 => (if y76001.length + bt76005.1.size < 140737488355328 then (tinderref05_ShowUnit.l0 k x0 (y76001 ++ bytesOf bt76005.1) (wrap64 (x4 + 1))) else (none))) else (none))) else (none)) else (if 0 ≤ x4 then ((tinderref02_Show.f (rd x0 x4) 16).bind fun bt76011 => (if x3.length + bt76011.1.size < 140737488355328 then (tinderref05_ShowUnit.l0 k x0 (x3 ++ bytesOf bt76011.1) (wrap64 (x4 + 1))) else (none))) else (none))) else (some (strOfNums x3))
def tinderref05_ShowUnit.f (k : Nat) (l0 : List Int) : Option (ByteArray) := tinderref05_ShowUnit.l0 k l0 ([] : List Int) 0

end Go.Proofs.YtnalcjgefbelnaaDoor.Q
end
section
set_option linter.unusedSimpArgs false
set_option linter.unusedVariables false
namespace Go.Proofs.YtnalcjgefbelnaaDoor.Q
open Go.RowKit Go.Proofs.YtnalcjgefbelnaaDoorW.PrintWords Go.Proofs.YtnalcjgefbelnaaDoorW.PrintLast
def shL (v : Int) : List UInt8 := showL 16 v.toNat
def unitsL (l : List Int) : List UInt8 := Lib.join (l.map shL) [44]
def unitsB (l : List Int) : ByteArray := ⟨(unitsL l).toArray⟩
def U32L (l : List Int) : Prop := ∀ a ∈ l, 0 ≤ a ∧ a < 4294967296
theorem join_snoc (xs : List (List UInt8)) (x : List UInt8) (sep : List UInt8) (h : xs ≠ []) : Lib.join (xs ++ [x]) sep = Lib.join xs sep ++ sep ++ x := by
  cases xs with
  | nil => exact absurd rfl h
  | cons y ys =>
    rw [List.cons_append, Lib.join_cons, Lib.join_cons]
    unfold Lib.joinTail
    rw [List.map_append, List.flatten_append]
    simp [List.append_assoc]
theorem shL_len (v : Int) (h : 0 ≤ v ∧ v < 4294967296) : (shL v).length ≤ 32 := showL_len 16 (by decide) 31 v.toNat (by have : (2 : Nat) ^ (31 + 1) = 4294967296 := by decide
                                                                                                                        omega)
theorem units_one (v : Int) : unitsL [v] = shL v := Lib.join_one _ _
theorem units_snoc (l : List Int) (v : Int) (h : l ≠ []) : unitsL (l ++ [v]) = unitsL l ++ [44] ++ shL v := by
  unfold unitsL
  rw [List.map_append, List.map_singleton, join_snoc _ _ _ (by simpa using h)]
theorem take_succ' {α : Type} (l : List α) (i : Nat) (h : i < l.length) : l.take (i + 1) = l.take i ++ [l[i]] := by
  rw [List.take_succ_eq_append_getElem h]
theorem units_len (l : List Int) (hl : U32L l) : ∀ i, i ≤ l.length → (unitsL (l.take i)).length ≤ 33 * i
  | 0, _ => by simp [unitsL, Lib.join_nil]
  | i + 1, h => by
    have ih := units_len l hl i (by omega)
    rw [take_succ' l i (by omega)]
    have hs := shL_len l[i] (hl _ (List.getElem_mem _))
    by_cases h0 : i = 0
    · subst h0
      rw [List.take_zero, List.nil_append, units_one]
      omega
    · rw [units_snoc _ _ (fun e => by have := congrArg List.length e; rw [List.length_take, List.length_nil] at this; omega)]
      rw [List.length_append, List.length_append, List.length_singleton]
      omega
theorem rd_get (l : List Int) (i : Nat) (h : i < l.length) : rd l (i : Int) = l[i] := by
  unfold rd
  rw [Int.toNat_natCast, List.getD_eq_getElem?_getD, List.getElem?_eq_getElem h]
  rfl
theorem bytesOf_mk (L : List UInt8) : bytesOf ⟨L.toArray⟩ = L.map fun b => (b.toNat : Int) := rfl
theorem strOf_bytes (L : List UInt8) : strOfNums (L.map fun b => (b.toNat : Int)) = ⟨L.toArray⟩ := by
  unfold strOfNums
  rw [List.map_map]
  congr 2
  conv => rhs; rw [← List.map_id L]
  apply List.map_congr_left
  intro c _
  exact UInt8.toNat_inj.1 (by simp)
theorem refshow_eq (v : Int) (h : 0 ≤ v ∧ v < 4294967296) : tinderref02_Show.f v 16 = some (⟨(shL v).toArray⟩, 0) := by
  unfold tinderref02_Show.f
  rw [if_pos h, if_pos (by decide)]
  rfl
theorem show_eq (v : Int) (h : 0 ≤ v ∧ v < 4294967296) : digit_Show.f v 16 = some (⟨(shL v).toArray⟩, 0) := by
  unfold digit_Show.f
  rw [if_pos ⟨h, rfl⟩]
  rfl
theorem refunits_go (l : List Int) (hl : U32L l) (hn : l.length ≤ 1000000000) : ∀ (d k i : Nat), i + d = l.length → d + 1 ≤ k → tinderref05_ShowUnit.l0 k l ((unitsL (l.take i)).map fun b => (b.toNat : Int)) (i : Int) = some (unitsB l)
  | 0, k, i, hi, hk => by
    obtain ⟨k, rfl⟩ : ∃ m, k = m + 1 := ⟨k - 1, by omega⟩
    unfold tinderref05_ShowUnit.l0
    rw [if_neg (by omega), List.take_of_length_le (by omega), strOf_bytes]
    rfl
  | d + 1, k, i, hi, hk => by
    obtain ⟨k, rfl⟩ : ∃ m, k = m + 1 := ⟨k - 1, by omega⟩
    have hb := hl l[i] (List.getElem_mem _)
    have hlen := units_len l hl i (by omega)
    have hs := shL_len l[i] hb
    have e1 : wrap64 ((i : Int) + 1) = ((i + 1 : Nat) : Int) := by unfold wrap64; omega
    have ih := refunits_go l hl hn d k (i + 1) (by omega) (by omega)
    have hsz : (⟨(shL l[i]).toArray⟩ : ByteArray).size = (shL l[i]).length := by simp [ByteArray.size]
    unfold tinderref05_ShowUnit.l0
    rw [if_pos (by omega), rd_get l i (by omega), refshow_eq _ hb]
    by_cases h0 : i = 0
    · subst h0
      rw [if_neg (by omega), if_pos (by omega), Option.bind_some]
      dsimp only
      rw [if_pos (by rw [List.length_map, hsz]; omega), e1, bytesOf_mk]
      rw [take_succ' l 0 (by omega), List.take_zero, List.nil_append, units_one] at ih
      rw [List.take_zero, show unitsL [] = [] from rfl, List.map_nil, List.nil_append]
      exact ih
    · rw [if_pos (by omega), if_pos (by rw [List.length_map]; omega), Option.bind_some, if_pos (by omega), Option.bind_some]
      dsimp only
      rw [if_pos (by rw [List.length_append, List.length_map, hsz, List.length_singleton]; omega), e1, bytesOf_mk]
      rw [take_succ' l i (by omega), units_snoc _ _ (fun e => by have := congrArg List.length e; rw [List.length_take, List.length_nil] at this; omega), List.map_append, List.map_append] at ih
      exact ih
theorem refunits_eq (k : Nat) (l : List Int) (hl : U32L l) (hn : l.length ≤ 1000000000) (hk : l.length + 1 ≤ k) : tinderref05_ShowUnit.f k l = some (unitsB l) := by
  have h := refunits_go l hl hn l.length k 0 (by omega) hk
  exact h
theorem units_go (l : List Int) (hl : U32L l) (hn : l.length ≤ 1000000000) : ∀ (d k i : Nat), i + d = l.length → d + 1 ≤ k → prop_ShowUnit.l0 k ((l.take i).map (fun v => (⟨(shL v).toArray⟩ : ByteArray)) ++ List.replicate d (⟨#[]⟩ : ByteArray)) l (l.length : Int) (i : Int) = some (unitsB l)
  | 0, k, i, hi, hk => by
    obtain ⟨k, rfl⟩ : ∃ m, k = m + 1 := ⟨k - 1, by omega⟩
    unfold prop_ShowUnit.l0
    have hlen := units_len l hl l.length (Nat.le_refl _)
    rw [List.take_length] at hlen
    have e : joinB (l.map (fun v => (⟨(shL v).toArray⟩ : ByteArray))) ⟨#[44]⟩ = unitsB l := by
      unfold joinB unitsB unitsL
      rw [List.map_map]
      rfl
    rw [if_neg (by omega), List.take_of_length_le (by omega), List.replicate_zero, List.append_nil]
    unfold strings_Join.f
    rw [e, if_pos ⟨by rw [List.length_map]; omega, by show (unitsL l).toArray.size ≤ _; rw [List.size_toArray]; omega⟩]
    rfl
  | d + 1, k, i, hi, hk => by
    obtain ⟨k, rfl⟩ : ∃ m, k = m + 1 := ⟨k - 1, by omega⟩
    have hb := hl l[i] (List.getElem_mem _)
    have e1 : wrap64 ((i : Int) + 1) = ((i + 1 : Nat) : Int) := by unfold wrap64; omega
    have ih := units_go l hl hn d k (i + 1) (by omega) (by omega)
    have hml : ((l.take i).map (fun v => (⟨(shL v).toArray⟩ : ByteArray))).length = i := by rw [List.length_map, List.length_take]; omega
    unfold prop_ShowUnit.l0
    rw [if_pos (by omega), if_pos (by omega), if_pos (by omega), rd_get l i (by omega), show_eq _ hb, Option.bind_some, if_pos (by rw [List.length_append, hml, List.length_replicate]; omega), e1]
    rw [take_succ' l i (by omega), List.map_append, List.map_singleton, List.append_assoc] at ih
    rw [Int.toNat_natCast, List.set_append_right _ _ (by omega), hml, Nat.sub_self, List.replicate_succ, List.set_cons_zero]
    exact ih
theorem units_eq (k : Nat) (l : List Int) (hl : U32L l) (hn : l.length ≤ 1000000000) (hk : l.length + 1 ≤ k) : prop_ShowUnit.f k l = some (unitsB l) := by
  have h := units_go l hl hn l.length k 0 (by omega) hk
  unfold prop_ShowUnit.f
  rw [if_pos (by omega), Int.toNat_natCast, if_pos (by omega)]
  exact h
end Go.Proofs.YtnalcjgefbelnaaDoor.Q
end
section
set_option linter.unusedSimpArgs false
set_option linter.unusedVariables false
namespace Go.Proofs.YtnalcjgefbelnaaDoor.Q
open Go.RowKit Go.Shelf Go.Proofs.YtnalcjgefbelnaaDoorW.PrintWords Go.Proofs.YtnalcjgefbelnaaDoorW.PrintLast Go.Proofs.YtnalcjgefbelnaaDoorW.PrintMore
attribute [local go_sem] max2_int min2_int max_two min_two max_three min_three max_four min_four
def okP (x : S49) : Bool := namedF x.f0 && decide (x.f1.length ≤ 4) && !decide (0 ≤ Lib.indexByte x.f2.data.toList 47)
def stepB (x : S49) : List UInt8 := (47 :: x.f0.data.toList) ++ (if 0 < x.f1.length then 64 :: unitsL x.f1 else []) ++ (if x.f2.size = 0 then [] else 58 :: x.f2.data.toList)
def pathL (l : List S49) : List UInt8 := (l.map stepB).flatten
def showP (l : List S49) : ByteArray × Int := if l.length = 0 then (⟨#[47]⟩, 0) else if l.all okP = true then (if 256 < (pathL l).length then (⟨#[]⟩, 3) else (⟨(pathL l).toArray⟩, 0)) else (⟨#[]⟩, 1)
theorem pathL_snoc (l : List S49) (x : S49) : pathL (l ++ [x]) = pathL l ++ stepB x := by
  unfold pathL
  rw [List.map_append, List.flatten_append]
  simp
theorem pathL_take (l : List S49) : ∀ i, (pathL (l.take i)).length ≤ (pathL l).length := by
  intro i
  have h : pathL l = pathL (l.take i) ++ pathL (l.drop i) := by
    unfold pathL
    rw [← List.flatten_append, ← List.map_append, List.take_append_drop]
  rw [h, List.length_append]
  omega
theorem cells_app (a b : List UInt8) : Lib.byteCells (a ++ b) = Lib.byteCells a ++ Lib.byteCells b := by unfold Lib.byteCells; rw [List.map_append]
theorem units_ge : ∀ l : List Int, l.length ≤ (unitsL l).length + 1
  | [] => by simp
  | [v] => by simp
  | v :: u :: l => by
    have ih := units_ge (u :: l)
    unfold unitsL at ih ⊢
    rw [List.map_cons, List.map_cons, Lib.join_cons]
    rw [List.map_cons, Lib.join_cons] at ih
    unfold Lib.joinTail at ih ⊢
    rw [List.map_cons, List.flatten_cons]
    simp only [List.length_append, List.length_cons, List.length_nil] at ih ⊢
    omega
theorem writeL (b : Nat) (P : List UInt8) (s : ByteArray) (W : World) (h : Lib.IsBuilder 94 5 b b (Lib.byteCells P) W) (hl : P.length + s.size ≤ 140737488355328) (hB : b ≤ W.heap.size) :
    Calls Tryd.prog 71 #[.pointer (some ⟨b, 0, none⟩), .string s] W fun e w' => e = .returned (.tuple #[.int .i64 s.size, .nilIface]) ∧ Lib.IsBuilder 94 5 b b (Lib.byteCells (P ++ s.data.toList)) w' ∧ Below b W w' ∧ KeepT b W w' := by
  refine (write_calls b b (Lib.byteCells P) s W h (by rw [Lib.byteCells_length]; exact hl) hB).mono ?_
  rintro e w' ⟨rfl, h1, h2, h3⟩
  refine ⟨rfl, .inr ?_, h2, h3⟩
  rw [cells_app]
  exact h1
theorem rd_T49_get (l : List S49) (i : Int) (h0 : 0 ≤ i) (h : i < l.length) : rd_T49 l i = l[i.toNat]'(by omega) := by
  unfold rd_T49
  rw [List.getD_eq_getElem?_getD, List.getElem?_eq_getElem (by omega)]
  rfl
set_option maxRecDepth 100000 in
set_option maxHeartbeats 8000000 in
theorem show_calls (A : Option Addr) (c : Nat) (l : List S49) (w : World) (ht : QB.Tabs w) (hC : Kd.C k49 w A l.length l) (hc : l.length ≤ c) (hU : ∀ x ∈ l, U32L x.f1) (hl : l.length ≤ 1000000000) (hP : (pathL l).length ≤ 1000000000) :
    Calls Tryd.prog 59 #[.slice A l.length c] w fun e w' => e = .returned (.tuple #[.string (showP l).1, .int .i64 (showP l).2]) ∧ Below w.heap.size w w' := by
  obtain ⟨R, hR⟩ : ∃ R, R = showP l := ⟨_, rfl⟩
  rw [← hR]
  by_cases h0 : l.length = 0
  · have HR := Aside0.mk (show R = (⟨#[47]⟩, 0) by rw [hR]; unfold showP; rw [if_pos h0])
    have d0 : ((l.length : Int) == 0) = true := by rw [h0]; rfl
    clear hR hC hc hU hl hP h0 ht
    go_enter Tryd.func59, Tryd.ntmps59
    go_wp2
    go_ret2
    exact ⟨by rw [HR.out]; rfl, Below.refl _ _⟩
  have d0 : ((l.length : Int) == 0) = false := beq_eq_false_iff_ne.2 (by omega)
  have HR := Aside0.mk (show R = if l.all okP = true then (if 256 < (pathL l).length then (⟨#[]⟩, 3) else (⟨(pathL l).toArray⟩, 0)) else (⟨#[]⟩, 1) by rw [hR]; unfold showP; rw [if_neg h0])
  have HC := Aside0.mk hC
  have HT := Aside0.mk ht
  have HU := Aside0.mk hU
  have HL := Aside0.mk hl
  have HP := Aside0.mk hP
  clear hR hC hc hU hl hP h0 ht
  go_enter Tryd.func59, Tryd.ntmps59
  go_wp2
  go_loopg [12] l.length (fun kq v12 w' => ∃ i : Int, v12 = .int .i64 i ∧ Aside0 (0 ≤ i ∧ i + kq = l.length) ∧ Aside0 (∀ x ∈ l.take i.toNat, okP x = true) ∧ Aside0 (Lib.IsBuilder 94 5 w.heap.size w.heap.size (Lib.byteCells (pathL (l.take i.toNat))) w') ∧ Aside0 (Below w.heap.size w w'))
  case atStart =>
    refine ⟨0, rfl, ⟨by omega, by omega⟩, ⟨fun x hx => by simp at hx⟩, ⟨.inl ⟨Nat.le_refl _, .slice none 0 0, heap_alloc_new w _, World.ownsRow_nil _ _ _ _, by simp [Value.ownBlock]⟩⟩, ⟨below_alloc (Below.refl _ _) _⟩⟩
  case round =>
    obtain ⟨i, rfl, HI, HO, HW, HB⟩ := hrel
    cases gk with
    | zero =>
      have hi := HI.out
      have hil : i = (l.length : Int) := by omega
      have ho := HO.out
      have hw := HW.out
      rw [hil, Int.toNat_natCast, List.take_length] at ho hw
      have hR := HR.out
      rw [if_pos (List.all_eq_true.2 ho)] at hR
      have hlt : decide (i < (l.length : Int)) = false := decide_eq_false (by omega)
      have HLN := Aside0.mk (Tryd.Builder_Len w.heap.size w.heap.size _ wr hw)
      rw [Lib.byteCells_length] at HLN
      have HST := Aside0.mk (Tryd.Builder_String_any w.heap.size w.heap.size (pathL l) wr hw HB.out.size)
      by_cases hb : 256 < (pathL l).length
      · rw [if_pos hb] at hR
        have d1 : decide (256 < ((pathL l).length : Int)) = true := decide_eq_true (by omega)
        have HE := Aside0.mk hR
        generalize (pathL l).length = n at HLN d1
        clear hi hil ho hw hR HST HI HO HW HC HT HU HP hb
        go_wp2_with (go_at_call 73; (with_reducible refine HLN.out.mono ?_); rintro e w7 ⟨rfl, rfl⟩)
        go_ret2
        exact ⟨by rw [HE.out]; rfl, HB.out⟩
      · rw [if_neg hb] at hR
        have d1 : decide (256 < ((pathL l).length : Int)) = false := decide_eq_false (by omega)
        have HE := Aside0.mk hR
        generalize (pathL l).length = n at HLN d1
        generalize (⟨(pathL l).toArray⟩ : ByteArray) = S at HST HE
        clear hi hil ho hw hR HI HO HW HC HT HU HP hb
        go_wp2_with (first
          | (go_at_call 73; (with_reducible refine HLN.out.mono ?_); rintro e w7 ⟨rfl, rfl⟩)
          | (go_at_call 74; (with_reducible refine HST.out.mono ?_); rintro e w8 ⟨rfl, hb⟩; have HB2 := Aside0.mk (HB.out.trans hb); clear hb))
        go_ret2
        exact ⟨by rw [HE.out]; rfl, HB2.out⟩
    | succ k1 =>
      have hi := HI.out
      have hlt : decide (i < (l.length : Int)) = true := decide_eq_true (by omega)
      have hlen := HL.out
      have hw1 : IntKind.i64.wrap (i + 1) = i + 1 := (i64_w _).trans (by unfold wrap64; omega)
      have hw2 : wrap64 (i + 1) = i + 1 := by unfold wrap64; omega
      have p1 : (0 ≤ i) = True := eq_true (by omega)
      have p2 : (i < (l.length : Int)) = True := eq_true (by omega)
      obtain ⟨ad, A1, c1, rfl, e0, e1, e2, hc1, hC1⟩ := at_T49 HC.out i (by omega) (by omega)
      have hxm : rd_T49 l i ∈ l := by rw [rd_T49_get l i (by omega) (by omega)]; exact List.getElem_mem _
      have htk : l.take (i + 1).toNat = l.take i.toNat ++ [rd_T49 l i] := by
        rw [show (i + 1).toNat = i.toNat + 1 by omega, take_succ' l i.toNat (by omega), rd_T49_get l i (by omega) (by omega)]
      have hux := HU.out _ hxm
      have hpl := pathL_take l (i + 1).toNat
      rw [htk, pathL_snoc, List.length_append] at hpl
      obtain ⟨x, hx⟩ : ∃ x, x = rd_T49 l i := ⟨_, rfl⟩
      rw [← hx] at e0 e1 e2 hc1 hC1 hxm htk hux hpl
      have hpP := HP.out
      have f0 : wr.cell? (ad.add (i.toNat * 3)) = some (.string x.f0) := by rw [HB.out.cell (World.block_lt_of_cell? w _ e0)]; exact e0
      have f1 : wr.cell? ⟨(ad.add (i.toNat * 3)).block, (ad.add (i.toNat * 3)).off + 1, none⟩ = some (.slice A1 x.f1.length c1) := by rw [HB.out.cell (World.block_lt_of_cell? w _ e1)]; exact e1
      have f2 : wr.cell? ⟨(ad.add (i.toNat * 3)).block, (ad.add (i.toNat * 3)).off + 2, none⟩ = some (.string x.f2) := by rw [HB.out.cell (World.block_lt_of_cell? w _ e2)]; exact e2
      have HX := Aside0.mk (show Kd.C (Kd.int .u32) w A1 x.f1.length x.f1 ∧ x.f1.length ≤ c1 ∧ U32L x.f1 ∧ x.f1.length ≤ 1000000000 from ⟨hC1, hc1, hux, by
        have h2 : x.f1.length ≤ (stepB x).length ∨ x.f1.length = 0 := by
          by_cases h : 0 < x.f1.length
          · left
            unfold stepB
            rw [if_pos h]
            simp only [List.length_append, List.length_cons]
            have h3 : x.f1.length ≤ (unitsL x.f1).length + 1 := units_ge x.f1
            omega
          · right; omega
        omega⟩)
      have HTK := Aside0.mk htk
      have HPL := Aside0.mk hpl
      have HXM := Aside0.mk hxm
      clear e0 e1 e2 hc1 hC1 hxm htk hux hx hpl
      go_upto_region 7 with (fail)
      obtain ⟨Y, hY⟩ : ∃ Y, Y = wr.alloc (.cells #[.string x.f0, .slice A1 x.f1.length c1, .string x.f2] 49) := ⟨_, rfl⟩
      obtain ⟨g6, hg6⟩ : ∃ g6, g6 = wr.heap.size := ⟨_, rfl⟩
      have K6 := Aside0.mk (show Y.heap[g6]? = some (.cells #[.string x.f0, .slice A1 x.f1.length c1, .string x.f2] 49 (0, 0)) by rw [hY, hg6]; exact heap_alloc_new wr _)
      have HBY := Aside0.mk (show Below w.heap.size w Y by rw [hY]; exact below_alloc HB.out _)
      have HWY := Aside0.mk (show Lib.IsBuilder 94 5 w.heap.size w.heap.size (Lib.byteCells (pathL (l.take i.toNat))) Y by rw [hY]; exact IsBuilder_below HW.out (below_alloc (Below.refl _ _) _))
      have HG := Aside0.mk (show g6 ≠ w.heap.size by
        have := HW.out
        have hlt2 : w.heap.size < wr.heap.size := by
          rcases this with h | h <;> exact h.lt
        omega)
      rw [← hY, ← hg6]
      clear hY hg6 f0 f1 f2 HB HW
      have k0 := (blk_cell K6.out 0).trans rfl
      have k1' := (blk_cell K6.out 1).trans rfl
      have k2' := (blk_cell K6.out 2).trans rfl
      have HN := Aside0.mk (show prop_Named.f 100 x.f0 = some (namedF x.f0) from named_eq 100 (by omega) x.f0)
      have HCT := Aside0.mk (fun W : World => Tryd.strings_Contains_one x.f2 47 W)
      by_cases hn : namedF x.f0 = true
      · rw [hn] at HN
        by_cases hu : 4 < x.f1.length
        · have du : decide (4 < (x.f1.length : Int)) = true := decide_eq_true (by omega)
          have HE := Aside0.mk (show R = (⟨#[]⟩, 1) by
            have hR := HR.out
            rw [if_neg (fun h => by
              have := List.all_eq_true.1 h x HXM.out
              rw [okP, decide_eq_false (show ¬ x.f1.length ≤ 4 by omega)] at this
              simp at this)] at hR
            exact hR)
          clear hi HX HTK HPL HWY HC HT HU HP hpP hlen
          go_wp2_with (first
            | (go_at_call 41; (with_reducible refine (prop_Named.calls 100 x.f0 _ _ HN.out).mono ?_); rintro e w1 ⟨rfl, hd⟩; have HBN := Aside0.mk (below_step HBY.out hd); have K6N := Aside0.mk (blk_below K6.out hd); have k0n := (blk_cell K6N.out 0).trans rfl; have k1n := (blk_cell K6N.out 1).trans rfl; have k2n := (blk_cell K6N.out 2).trans rfl)
            | (go_at_call 70; (with_reducible refine (HCT.out _).mono ?_); rintro e w1 ⟨rfl, rfl⟩))
          go_ret2
          exact ⟨by rw [HE.out]; rfl, HBN.out⟩
        · have du : decide (4 < (x.f1.length : Int)) = false := decide_eq_false (by omega)
          by_cases hs : 0 ≤ Lib.indexByte x.f2.data.toList 47
          · rw [decide_eq_true hs] at HCT
            have HE := Aside0.mk (show R = (⟨#[]⟩, 1) by
              have hR := HR.out
              rw [if_neg (fun h => by
                have := List.all_eq_true.1 h x HXM.out
                rw [okP, decide_eq_true hs] at this
                simp at this)] at hR
              exact hR)
            clear hi HX HTK HPL HWY HC HT HU HP hpP hlen
            go_wp2_with (first
              | (go_at_call 41; (with_reducible refine (prop_Named.calls 100 x.f0 _ _ HN.out).mono ?_); rintro e w1 ⟨rfl, hd⟩; have HBN := Aside0.mk (below_step HBY.out hd); have K6N := Aside0.mk (blk_below K6.out hd); have k0n := (blk_cell K6N.out 0).trans rfl; have k1n := (blk_cell K6N.out 1).trans rfl; have k2n := (blk_cell K6N.out 2).trans rfl)
              | (go_at_call 70; (with_reducible refine (HCT.out _).mono ?_); rintro e w1 ⟨rfl, rfl⟩))
            go_ret2
            exact ⟨by rw [HE.out]; rfl, HBN.out⟩
          · rw [decide_eq_false hs] at HCT
            have HOK := Aside0.mk (show okP x = true by unfold okP; rw [hn, decide_eq_false hs, decide_eq_true (show x.f1.length ≤ 4 by omega)]; rfl)
            have hstep : (stepB x).length = 1 + x.f0.size + (if 0 < x.f1.length then 1 + (unitsL x.f1).length else 0) + (if x.f2.size = 0 then 0 else 1 + x.f2.size) := by
              unfold stepB
              rw [List.length_append, List.length_append, List.length_cons, data_length]
              have a1 : (if 0 < x.f1.length then 64 :: unitsL x.f1 else []).length = if 0 < x.f1.length then 1 + (unitsL x.f1).length else 0 := by
                split
                · rw [List.length_cons]; omega
                · rfl
              have a2 : (if x.f2.size = 0 then [] else 58 :: x.f2.data.toList).length = if x.f2.size = 0 then 0 else 1 + x.f2.size := by
                split
                · rfl
                · rw [List.length_cons, data_length]; omega
              rw [a1, a2]
              omega
            have hpl := HPL.out
            have s1z : ((⟨#[47]⟩ : ByteArray) ++ x.f0).size = 1 + x.f0.size := by rw [ByteArray.size_append]; rfl
            have W1 := Aside0.mk (fun (W : World) (h : Lib.IsBuilder 94 5 w.heap.size w.heap.size (Lib.byteCells (pathL (l.take i.toNat))) W) (hB : w.heap.size ≤ W.heap.size) => writeL w.heap.size (pathL (l.take i.toNat)) ((⟨#[47]⟩ : ByteArray) ++ x.f0) W h (by omega) hB)
            have q1 : (9223372036854775807 < 1 + (x.f0.size : Int)) = False := eq_false (by omega)
            have q1n : (9223372036854775807 < 1 + x.f0.size) = False := eq_false (by omega)
            have q1m : (9223372036854775807 < (⟨#[47]⟩ : ByteArray).size + x.f0.size) = False := eq_false (by rw [show (⟨#[47]⟩ : ByteArray).size = 1 from rfl]; omega)
            have q1d : decide (9223372036854775807 < 1 + x.f0.size) = false := decide_eq_false (by omega)
            obtain ⟨P1, hP1⟩ : ∃ P1, P1 = pathL (l.take i.toNat) ++ ((⟨#[47]⟩ : ByteArray) ++ x.f0).data.toList := ⟨_, rfl⟩
            have hP1l : P1.length = (pathL (l.take i.toNat)).length + (1 + x.f0.size) := by rw [hP1, List.length_append, data_length, s1z]
            rw [← hP1] at W1
            by_cases hun : 0 < x.f1.length
            · have dun : decide ((0 : Int) < (x.f1.length : Int)) = true := decide_eq_true (by omega)
              have dunN : decide (0 < x.f1.length) = true := decide_eq_true hun
              have HSU := Aside0.mk (fun (W : World) (hT : QB.Tabs W) (hCW : Kd.C (Kd.int .u32) W A1 x.f1.length x.f1) => prop_ShowUnit.calls 1000000001 A1 c1 x.f1 (unitsB x.f1) W hT hCW HX.out.2.1 (units_eq 1000000001 x.f1 HX.out.2.2.1 HX.out.2.2.2 (by have := HX.out.2.2.2; omega)))
              rw [if_pos hun] at hstep
              have s2z : ((⟨#[64]⟩ : ByteArray) ++ unitsB x.f1).size = 1 + (unitsL x.f1).length := by rw [ByteArray.size_append]; simp [unitsB, ByteArray.size]
              have hub : (unitsB x.f1).size = (unitsL x.f1).length := by simp [unitsB, ByteArray.size]
              have q2 : (9223372036854775807 < 1 + ((unitsB x.f1).size : Int)) = False := eq_false (by omega)
              have q2n : (9223372036854775807 < 1 + (unitsB x.f1).size) = False := eq_false (by omega)
              have q2m : (9223372036854775807 < (⟨#[64]⟩ : ByteArray).size + (unitsB x.f1).size) = False := eq_false (by rw [show (⟨#[64]⟩ : ByteArray).size = 1 from rfl]; omega)
              have q2d : decide (9223372036854775807 < 1 + (unitsB x.f1).size) = false := decide_eq_false (by omega)
              have W2 := Aside0.mk (fun (W : World) (h : Lib.IsBuilder 94 5 w.heap.size w.heap.size (Lib.byteCells P1) W) (hB : w.heap.size ≤ W.heap.size) => writeL w.heap.size P1 ((⟨#[64]⟩ : ByteArray) ++ unitsB x.f1) W h (by omega) hB)
              obtain ⟨P2, hP2⟩ : ∃ P2, P2 = P1 ++ ((⟨#[64]⟩ : ByteArray) ++ unitsB x.f1).data.toList := ⟨_, rfl⟩
              have hP2l : P2.length = P1.length + (1 + (unitsL x.f1).length) := by rw [hP2, List.length_append, data_length, s2z]
              rw [← hP2] at W2
              by_cases har : x.f2.size = 0
              · have da : x.f2.toList.isEmpty = true := List.isEmpty_iff.2 ((empty_iff x.f2).2 har)
                have HEQ := Aside0.mk (show P2 = pathL (l.take (i + 1).toNat) by
                  rw [HTK.out, pathL_snoc, hP2, hP1]
                  unfold stepB
                  rw [if_pos hun, if_pos har]
                  simp [unitsB, List.append_assoc])
                clear hi hpP hlen hstep hpl hP1 hP1l s1z har hun hs hP2 hP2l s2z hub
                go_wp2_with (first
                  | (go_at_call 41; (with_reducible refine (prop_Named.calls 100 x.f0 _ _ HN.out).mono ?_); rintro e w1 ⟨rfl, hd⟩; have HBN := Aside0.mk (below_step HBY.out hd); have K6N := Aside0.mk (blk_below K6.out hd); have HWN := Aside0.mk (IsBuilder_below HWY.out hd); have k0n := (blk_cell K6N.out 0).trans rfl; have k1n := (blk_cell K6N.out 1).trans rfl; have k2n := (blk_cell K6N.out 2).trans rfl; clear hd)
                  | (go_at_call 70; (with_reducible refine (HCT.out _).mono ?_); rintro e w1 ⟨rfl, rfl⟩)
                  | (go_at_call 71; (with_reducible refine (W1.out _ HWN.out HBN.out.size).mono ?_); rintro e w2 ⟨rfl, hbw, hbb, hbk⟩; have HBp := Aside0.mk (HBN.out.trans hbb); have K6p := Aside0.mk (hbk g6 _ 49 _ HG.out (by decide) K6N.out); have HWp := Aside0.mk hbw; have k0p := (blk_cell K6p.out 0).trans rfl; have k1p := (blk_cell K6p.out 1).trans rfl; have k2p := (blk_cell K6p.out 2).trans rfl; clear hbw hbb hbk)
                  | (go_at_call 72; (with_reducible refine (HSU.out _ (HT.out.below HBp.out) (Kd.C_below HX.out.1 HBp.out)).mono ?_); rintro e w9 ⟨rfl, hd⟩; have HBs := Aside0.mk (below_step HBp.out hd); have K6s := Aside0.mk (blk_below K6p.out hd); have HWs := Aside0.mk (IsBuilder_below HWp.out hd); have k0s := (blk_cell K6s.out 0).trans rfl; have k1s := (blk_cell K6s.out 1).trans rfl; have k2s := (blk_cell K6s.out 2).trans rfl; clear hd)
                  | (go_at_call 71; (with_reducible refine (W2.out _ HWs.out HBs.out.size).mono ?_); rintro e w3 ⟨rfl, hbw, hbb, hbk⟩; have HBu := Aside0.mk (HBs.out.trans hbb); have K6u := Aside0.mk (hbk g6 _ 49 _ HG.out (by decide) K6s.out); have HWu := Aside0.mk hbw; have k0u := (blk_cell K6u.out 0).trans rfl; have k1u := (blk_cell K6u.out 1).trans rfl; have k2u := (blk_cell K6u.out 2).trans rfl; clear hbw hbb hbk))
                go_roundg k1
                case measure => omega
                case rel =>
                  have hi := HI.out
                  refine ⟨i + 1, rfl, ⟨by omega, by omega⟩, ⟨fun y hy => ?_⟩, ⟨?_⟩, HBu⟩
                  · rw [HTK.out] at hy
                    rcases List.mem_append.1 hy with hy | hy
                    · exact HO.out y hy
                    · rw [List.mem_singleton.1 hy]; exact HOK.out
                  · rw [← HEQ.out]
                    exact HWu.out
              · rw [if_neg har] at hstep
                have s3z : ((⟨#[58]⟩ : ByteArray) ++ x.f2).size = 1 + x.f2.size := by rw [ByteArray.size_append]; rfl
                have q3 : (9223372036854775807 < 1 + (x.f2.size : Int)) = False := eq_false (by omega)
                have q3n : (9223372036854775807 < 1 + x.f2.size) = False := eq_false (by omega)
                have q3m : (9223372036854775807 < (⟨#[58]⟩ : ByteArray).size + x.f2.size) = False := eq_false (by rw [show (⟨#[58]⟩ : ByteArray).size = 1 from rfl]; omega)
                have q3d : decide (9223372036854775807 < 1 + x.f2.size) = false := decide_eq_false (by omega)
                have da : x.f2.toList.isEmpty = false := List.isEmpty_eq_false_iff.2 (fun h => har ((empty_iff x.f2).1 h))
                have W3 := Aside0.mk (fun (W : World) (h : Lib.IsBuilder 94 5 w.heap.size w.heap.size (Lib.byteCells P2) W) (hB : w.heap.size ≤ W.heap.size) => writeL w.heap.size P2 ((⟨#[58]⟩ : ByteArray) ++ x.f2) W h (by omega) hB)
                obtain ⟨P3, hP3⟩ : ∃ P3, P3 = P2 ++ ((⟨#[58]⟩ : ByteArray) ++ x.f2).data.toList := ⟨_, rfl⟩
                rw [← hP3] at W3
                have HEQ := Aside0.mk (show P3 = pathL (l.take (i + 1).toNat) by
                  rw [HTK.out, pathL_snoc, hP3, hP2, hP1]
                  unfold stepB
                  rw [if_pos hun, if_neg har]
                  simp [unitsB, List.append_assoc])
                clear hi hpP hlen hstep hpl hP1 hP1l s1z har hun hs hP2 hP2l s2z hub hP3 s3z
                go_wp2_with (first
                  | (go_at_call 41; (with_reducible refine (prop_Named.calls 100 x.f0 _ _ HN.out).mono ?_); rintro e w1 ⟨rfl, hd⟩; have HBN := Aside0.mk (below_step HBY.out hd); have K6N := Aside0.mk (blk_below K6.out hd); have HWN := Aside0.mk (IsBuilder_below HWY.out hd); have k0n := (blk_cell K6N.out 0).trans rfl; have k1n := (blk_cell K6N.out 1).trans rfl; have k2n := (blk_cell K6N.out 2).trans rfl; clear hd)
                  | (go_at_call 70; (with_reducible refine (HCT.out _).mono ?_); rintro e w1 ⟨rfl, rfl⟩)
                  | (go_at_call 71; (with_reducible refine (W1.out _ HWN.out HBN.out.size).mono ?_); rintro e w2 ⟨rfl, hbw, hbb, hbk⟩; have HBp := Aside0.mk (HBN.out.trans hbb); have K6p := Aside0.mk (hbk g6 _ 49 _ HG.out (by decide) K6N.out); have HWp := Aside0.mk hbw; have k0p := (blk_cell K6p.out 0).trans rfl; have k1p := (blk_cell K6p.out 1).trans rfl; have k2p := (blk_cell K6p.out 2).trans rfl; clear hbw hbb hbk)
                  | (go_at_call 72; (with_reducible refine (HSU.out _ (HT.out.below HBp.out) (Kd.C_below HX.out.1 HBp.out)).mono ?_); rintro e w9 ⟨rfl, hd⟩; have HBs := Aside0.mk (below_step HBp.out hd); have K6s := Aside0.mk (blk_below K6p.out hd); have HWs := Aside0.mk (IsBuilder_below HWp.out hd); have k0s := (blk_cell K6s.out 0).trans rfl; have k1s := (blk_cell K6s.out 1).trans rfl; have k2s := (blk_cell K6s.out 2).trans rfl; clear hd)
                  | (go_at_call 71; (with_reducible refine (W2.out _ HWs.out HBs.out.size).mono ?_); rintro e w3 ⟨rfl, hbw, hbb, hbk⟩; have HBu := Aside0.mk (HBs.out.trans hbb); have K6u := Aside0.mk (hbk g6 _ 49 _ HG.out (by decide) K6s.out); have HWu := Aside0.mk hbw; have k0u := (blk_cell K6u.out 0).trans rfl; have k1u := (blk_cell K6u.out 1).trans rfl; have k2u := (blk_cell K6u.out 2).trans rfl; clear hbw hbb hbk)
                  | (go_at_call 71; (with_reducible refine (W3.out _ HWu.out HBu.out.size).mono ?_); rintro e w4 ⟨rfl, hbw, hbb, hbk⟩; have HBa := Aside0.mk (HBu.out.trans hbb); have K6a := Aside0.mk (hbk g6 _ 49 _ HG.out (by decide) K6u.out); have HWa := Aside0.mk hbw; have k0a := (blk_cell K6a.out 0).trans rfl; have k1a := (blk_cell K6a.out 1).trans rfl; have k2a := (blk_cell K6a.out 2).trans rfl; clear hbw hbb hbk))
                go_roundg k1
                case measure => omega
                case rel =>
                  have hi := HI.out
                  refine ⟨i + 1, rfl, ⟨by omega, by omega⟩, ⟨fun y hy => ?_⟩, ⟨?_⟩, HBa⟩
                  · rw [HTK.out] at hy
                    rcases List.mem_append.1 hy with hy | hy
                    · exact HO.out y hy
                    · rw [List.mem_singleton.1 hy]; exact HOK.out
                  · rw [← HEQ.out]
                    exact HWa.out
            · have dun : decide ((0 : Int) < (x.f1.length : Int)) = false := decide_eq_false (by omega)
              have dunN : decide (0 < x.f1.length) = false := decide_eq_false hun
              by_cases har : x.f2.size = 0
              · rw [if_neg hun, if_pos har] at hstep
                have da : x.f2.toList.isEmpty = true := List.isEmpty_iff.2 ((empty_iff x.f2).2 har)
                have HEQ := Aside0.mk (show P1 = pathL (l.take (i + 1).toNat) by
                  rw [HTK.out, pathL_snoc, hP1]
                  unfold stepB
                  rw [if_neg hun, if_pos har]
                  simp [unitsB, List.append_assoc])
                clear hi hpP hlen hstep hpl hP1 hP1l s1z har hun hs
                go_wp2_with (first
                  | (go_at_call 41; (with_reducible refine (prop_Named.calls 100 x.f0 _ _ HN.out).mono ?_); rintro e w1 ⟨rfl, hd⟩; have HBN := Aside0.mk (below_step HBY.out hd); have K6N := Aside0.mk (blk_below K6.out hd); have HWN := Aside0.mk (IsBuilder_below HWY.out hd); have k0n := (blk_cell K6N.out 0).trans rfl; have k1n := (blk_cell K6N.out 1).trans rfl; have k2n := (blk_cell K6N.out 2).trans rfl; clear hd)
                  | (go_at_call 70; (with_reducible refine (HCT.out _).mono ?_); rintro e w1 ⟨rfl, rfl⟩)
                  | (go_at_call 71; (with_reducible refine (W1.out _ HWN.out HBN.out.size).mono ?_); rintro e w2 ⟨rfl, hbw, hbb, hbk⟩; have HBp := Aside0.mk (HBN.out.trans hbb); have K6p := Aside0.mk (hbk g6 _ 49 _ HG.out (by decide) K6N.out); have HWp := Aside0.mk hbw; have k0p := (blk_cell K6p.out 0).trans rfl; have k1p := (blk_cell K6p.out 1).trans rfl; have k2p := (blk_cell K6p.out 2).trans rfl; clear hbw hbb hbk))
                go_roundg k1
                case measure => omega
                case rel =>
                  have hi := HI.out
                  refine ⟨i + 1, rfl, ⟨by omega, by omega⟩, ⟨fun y hy => ?_⟩, ⟨?_⟩, HBp⟩
                  · rw [HTK.out] at hy
                    rcases List.mem_append.1 hy with hy | hy
                    · exact HO.out y hy
                    · rw [List.mem_singleton.1 hy]; exact HOK.out
                  · rw [← HEQ.out]
                    exact HWp.out
              · rw [if_neg hun, if_neg har] at hstep
                have s3z : ((⟨#[58]⟩ : ByteArray) ++ x.f2).size = 1 + x.f2.size := by rw [ByteArray.size_append]; rfl
                have q3 : (9223372036854775807 < 1 + (x.f2.size : Int)) = False := eq_false (by omega)
                have q3n : (9223372036854775807 < 1 + x.f2.size) = False := eq_false (by omega)
                have q3m : (9223372036854775807 < (⟨#[58]⟩ : ByteArray).size + x.f2.size) = False := eq_false (by rw [show (⟨#[58]⟩ : ByteArray).size = 1 from rfl]; omega)
                have q3d : decide (9223372036854775807 < 1 + x.f2.size) = false := decide_eq_false (by omega)
                have da : x.f2.toList.isEmpty = false := List.isEmpty_eq_false_iff.2 (fun h => har ((empty_iff x.f2).1 h))
                have W3 := Aside0.mk (fun (W : World) (h : Lib.IsBuilder 94 5 w.heap.size w.heap.size (Lib.byteCells P1) W) (hB : w.heap.size ≤ W.heap.size) => writeL w.heap.size P1 ((⟨#[58]⟩ : ByteArray) ++ x.f2) W h (by omega) hB)
                obtain ⟨P3, hP3⟩ : ∃ P3, P3 = P1 ++ ((⟨#[58]⟩ : ByteArray) ++ x.f2).data.toList := ⟨_, rfl⟩
                rw [← hP3] at W3
                have HEQ := Aside0.mk (show P3 = pathL (l.take (i + 1).toNat) by
                  rw [HTK.out, pathL_snoc, hP3, hP1]
                  unfold stepB
                  rw [if_neg hun, if_neg har]
                  simp [unitsB, List.append_assoc])
                clear hi hpP hlen hstep hpl hP1 hP1l s1z har hun hs hP3 s3z
                go_wp2_with (first
                  | (go_at_call 41; (with_reducible refine (prop_Named.calls 100 x.f0 _ _ HN.out).mono ?_); rintro e w1 ⟨rfl, hd⟩; have HBN := Aside0.mk (below_step HBY.out hd); have K6N := Aside0.mk (blk_below K6.out hd); have HWN := Aside0.mk (IsBuilder_below HWY.out hd); have k0n := (blk_cell K6N.out 0).trans rfl; have k1n := (blk_cell K6N.out 1).trans rfl; have k2n := (blk_cell K6N.out 2).trans rfl; clear hd)
                  | (go_at_call 70; (with_reducible refine (HCT.out _).mono ?_); rintro e w1 ⟨rfl, rfl⟩)
                  | (go_at_call 71; (with_reducible refine (W1.out _ HWN.out HBN.out.size).mono ?_); rintro e w2 ⟨rfl, hbw, hbb, hbk⟩; have HBp := Aside0.mk (HBN.out.trans hbb); have K6p := Aside0.mk (hbk g6 _ 49 _ HG.out (by decide) K6N.out); have HWp := Aside0.mk hbw; have k0p := (blk_cell K6p.out 0).trans rfl; have k1p := (blk_cell K6p.out 1).trans rfl; have k2p := (blk_cell K6p.out 2).trans rfl; clear hbw hbb hbk)
                  | (go_at_call 71; (with_reducible refine (W3.out _ HWp.out HBp.out.size).mono ?_); rintro e w4 ⟨rfl, hbw, hbb, hbk⟩; have HBa := Aside0.mk (HBp.out.trans hbb); have K6a := Aside0.mk (hbk g6 _ 49 _ HG.out (by decide) K6p.out); have HWa := Aside0.mk hbw; have k0a := (blk_cell K6a.out 0).trans rfl; have k1a := (blk_cell K6a.out 1).trans rfl; have k2a := (blk_cell K6a.out 2).trans rfl; clear hbw hbb hbk))
                go_roundg k1
                case measure => omega
                case rel =>
                  have hi := HI.out
                  refine ⟨i + 1, rfl, ⟨by omega, by omega⟩, ⟨fun y hy => ?_⟩, ⟨?_⟩, HBa⟩
                  · rw [HTK.out] at hy
                    rcases List.mem_append.1 hy with hy | hy
                    · exact HO.out y hy
                    · rw [List.mem_singleton.1 hy]; exact HOK.out
                  · rw [← HEQ.out]
                    exact HWa.out
      · have hn2 := Bool.eq_false_iff.2 hn
        rw [hn2] at HN
        have HE := Aside0.mk (show R = (⟨#[]⟩, 1) by
          have hR := HR.out
          rw [if_neg (fun h => by
            have := List.all_eq_true.1 h x HXM.out
            rw [okP, hn2] at this
            simp at this)] at hR
          exact hR)
        clear hi HX HTK HPL HWY HC HT HU HP hpP hlen
        go_wp2_with (first
          | (go_at_call 41; (with_reducible refine (prop_Named.calls 100 x.f0 _ _ HN.out).mono ?_); rintro e w1 ⟨rfl, hd⟩; have HBN := Aside0.mk (below_step HBY.out hd); have K6N := Aside0.mk (blk_below K6.out hd); have k0n := (blk_cell K6N.out 0).trans rfl; have k1n := (blk_cell K6N.out 1).trans rfl; have k2n := (blk_cell K6N.out 2).trans rfl)
          | (go_at_call 70; (with_reducible refine (HCT.out _).mono ?_); rintro e w1 ⟨rfl, rfl⟩))
        go_ret2
        exact ⟨by rw [HE.out]; rfl, HBN.out⟩
end Go.Proofs.YtnalcjgefbelnaaDoor.Q
end
section
set_option linter.unusedSimpArgs false
set_option linter.unusedVariables false
namespace Go.Proofs.YtnalcjgefbelnaaDoor.Q
open Go.RowKit Go.Proofs.YtnalcjgefbelnaaDoorW.PrintWords Go.Proofs.YtnalcjgefbelnaaDoorW.PrintLast Go.Proofs.YtnalcjgefbelnaaDoorW.PrintMore
attribute [local go_sem] max2_int min2_int max_two min_two max_three min_three max_four min_four
theorem event_stepN {P : Program} {ops : Array Oper} {o : Oper} {a : Act} {Q : Exit → Act → World → Prop} {Kc : Act → World → Prop} {N : Option Tmp} {W w1 : World} {v : Value} (hw : Region.wanted o (yielded ops a.tmps) = true) (hN : o.dst = N) (hrun : (execOp a.eval o).run P W = .ok (.value v) w1) (h : Kc (a.put N v) w1) :
    if Region.wanted o (yielded ops a.tmps) = true then Oper.wp P o a W Kc Q else Kc (a.put N undef) W := by
  subst hN
  exact event_step hw hrun h
/-- The steps from a device up to the root. -/
def upF (t : List S44) : Nat → Int → List S49
  | 0, _ => []
  | k + 1, n => if 0 < n then (⟨(rd_T44 t n).f0, (rd_T44 t n).f1, ⟨#[]⟩⟩ : S49) :: upF t k (rd_T44 t n).f2 else []
def u32B (l : List Int) : Bool := l.all fun u => decide (0 ≤ u ∧ u < 4294967296)
def pathOk (l : List S49) : Bool := l.all (fun x => u32B x.f1) && decide ((pathL l).length ≤ 1000000000)
def tree_Path.f (l0 : List S44) (a1 : Int) : Option (ByteArray × Int) := (tree_check.f l0 a1).bind fun e => if e = 0 then (if pathOk (upF l0 a1.toNat a1).reverse = true then some (showP (upF l0 a1.toNat a1).reverse) else none) else some (⟨#[]⟩, e)
theorem upF_len (t : List S44) : ∀ (k : Nat) (n : Int), (upF t k n).length ≤ k
  | 0, n => Nat.le_refl 0
  | k + 1, n => by
    unfold upF
    split
    · have := upF_len t k (rd_T44 t n).f2
      rw [List.length_cons]
      omega
    · exact Nat.zero_le _
theorem form_up {t : List S44} (h : treeF t = true) (i : Int) (h0 : 0 < i) (hi : i < t.length) : 0 ≤ (rd_T44 t i).f2 ∧ (rd_T44 t i).f2 < i := by
  have h1 := form_node h i.toNat (by omega)
  unfold nodeOk at h1
  rw [show t.getD i.toNat z44 = rd_T44 t i from rfl, show ((i.toNat : Nat) : Int) = i by omega, beq_eq_false_iff_ne.2 (show i ≠ 0 by omega)] at h1
  unfold kidOk at h1
  simp only [Bool.and_eq_true, Bool.not_eq_true', decide_eq_false_iff_not, Bool.false_eq_true, if_false] at h1
  omega
theorem u32_of {x : List Int} (h : u32B x = true) : U32L x := fun u hu => by
  have := List.all_eq_true.1 h u hu
  exact of_decide_eq_true this
theorem seg_take (cur : List Value) (n k : Nat) (h : k < n) : seg (cur.take (n * 3)) 3 k = seg cur 3 k := by
  apply List.ext_getElem?
  intro t
  by_cases ht : t < 3
  · rw [seg_get _ _ _ _ ht, seg_get _ _ _ _ ht, List.getElem?_take, if_pos (by omega)]
  · have h1 : ∀ c : List Value, (seg c 3 k)[t]? = none := fun c => by unfold seg; rw [List.getElem?_take, if_neg ht]
    rw [h1, h1]
set_option maxHeartbeats 4000000 in
set_option maxRecDepth 100000 in
theorem reverse_nil (w : World) : Calls Tryd.prog 58 #[.slice none 0 0] w fun e w' => (∃ v, e = .returned v) ∧ w' = w := by
  have hu49 := Tryd.underlying49
  have hw0 : wrap64 ((0 : Int) - 1) = -1 := by unfold wrap64; omega
  have hw1 : wrap64 (-1) = -1 := by unfold wrap64; omega
  go_enter Tryd.func58, Tryd.ntmps58
  go_wp2
  go_loopg [2, 3] 0 (fun kq v2 v3 w' => v2 = .int .i64 0 ∧ v3 = .int .i64 (-1) ∧ w' = w)
  case atStart => exact ⟨rfl, by first | rfl | decide, rfl⟩
  case round =>
    obtain ⟨rfl, rfl, rfl⟩ := hrel
    have dl : decide ((0 : Int) < -1) = false := by decide
    go_wp2
    go_end0
    exact ⟨⟨_, rfl⟩, rfl⟩
/-- What is left in the row behind the turning. -/
theorem rev_C {w w2 : World} {g : Nat} {cur cur' : Array Value} {ss : List S49} {css : List (List Value)} (hl : css.length = ss.length) (hm : ss.length ≤ 1000)
    (hK : ∀ (j : Nat) x c, ss[j]? = some x → css[j]? = some c → k49.K w x c) (hseg : ∀ (k : Nat) c, css[k]? = some c → seg cur.toList 3 k = c)
    (hh : w2.heap[g]? = some (.cells cur' 49 (0, 0))) (hs : ∀ k, k < css.length → seg cur'.toList 3 k = seg cur.toList 3 (css.length - 1 - k)) (hb : Below w.heap.size w w2) :
    Kd.C k49 w2 (some ⟨g, 0, none⟩) css.length ss.reverse := by
  refine ⟨by rw [List.length_reverse, hl], by omega, fun hp => ⟨_, rfl, fun j p hj => ?_⟩⟩
  have hjl : j < ss.length := by
    have := (List.getElem?_eq_some_iff.1 hj).1
    rwa [List.length_reverse] at this
  have e1 : ss[css.length - 1 - j]? = some p := by
    rw [List.getElem?_reverse hjl] at hj
    rw [hl]
    exact hj
  obtain ⟨c, hc⟩ : ∃ c, css[css.length - 1 - j]? = some c := ⟨_, List.getElem?_eq_getElem (show css.length - 1 - j < css.length by omega)⟩
  have hk := hK _ _ _ e1 hc
  have hsg : seg cur'.toList 3 j = c := (hs j (by omega)).trans (hseg _ _ hc)
  refine ⟨c, k49.K_len hk, k49.K_below hb hk, fun i u hu => ?_⟩
  have hi : i < 3 := by
    have := (List.getElem?_eq_some_iff.1 hu).1
    rwa [k49.K_len hk] at this
  have := cell_seg hh hsg hi hu
  rw [add_plain]
  exact this
set_option maxHeartbeats 8000000 in
set_option maxRecDepth 100000 in
theorem tree_Path.calls (A0 : Option Addr) (c0 : Nat) (l0 : List S44) (a1 : Int) (r1 : ByteArray) (r2 : Int) (w : World) (ht : QB.Tabs w) (hr0 : Kd.C k44 w A0 l0.length l0) (hc0 : l0.length ≤ c0) (h : tree_Path.f l0 a1 = some (r1, r2)) :
    Calls Tryd.prog 23 #[.slice A0 l0.length c0, .int .i64 a1] w fun e w' => e = .returned (.tuple #[.string r1, .int .i64 r2]) ∧ Below w.heap.size w w' := by
  have hu44 := Tryd.underlying44
  have mixed : Tryd.prog.follows Departure.mixedOrders = true := by kernel_rfl
  unfold tree_Path.f at h
  obtain ⟨e0, A1, H⟩ := Option.bind_eq_some_iff.mp h
  clear h
  have HCK := Aside0.mk (tree_check.calls A0 c0 l0 a1 e0 w hr0 hc0 A1)
  by_cases he : e0 = 0
  · subst he
    rw [if_pos rfl] at H
    have HIN := Aside0.mk (check_in A1)
    have HTF := Aside0.mk (check_form A1)
    have HLN := Aside0.mk (form_len (check_form A1))
    obtain ⟨S0, hS0⟩ : ∃ S0, S0 = upF l0 a1.toNat a1 := ⟨_, rfl⟩
    have hS1 : S0.length ≤ 32 := by
      have := upF_len l0 a1.toNat a1
      have := (check_in A1)
      have := form_len (check_form A1)
      rw [hS0]
      omega
    rw [← hS0] at H
    by_cases hp : pathOk S0.reverse = true
    · rw [if_pos hp] at H
      have hq := H
      injection hq with hq
      unfold pathOk at hp
      rw [Bool.and_eq_true] at hp
      have HU := Aside0.mk (show ∀ x ∈ S0.reverse, U32L x.f1 from fun x hx => u32_of (List.all_eq_true.1 hp.1 x hx))
      have HPL := Aside0.mk (of_decide_eq_true hp.2)
      have HQ := Aside0.mk hq
      have HS := Aside0.mk hS0
      have HSL := Aside0.mk hS1
      have HC0 := Aside0.mk hr0
      have HT := Aside0.mk ht
      clear H hp hq hS0 hS1 hr0 ht A1 hc0
      have HSH := Aside0.mk (fun (A : Option Addr) (c n : Nat) (W : World) (hb : Below w.heap.size w W) (hn : S0.reverse.length = n) (hC : Kd.C k49 W A n S0.reverse) (hc : n ≤ c) => show Calls Tryd.prog 59 #[.slice A n c] W fun e w' => e = .returned (.tuple #[.string r1, .int .i64 r2]) ∧ Below W.heap.size W w' by
        have h1 := show_calls A c S0.reverse W (HT.out.below hb) (by rw [hn]; exact hC) (by rw [hn]; exact hc) HU.out (by rw [List.length_reverse]; have := HSL.out; omega) HPL.out
        rw [HQ.out, hn] at h1
        exact h1)
      go_enter Tryd.func23, Tryd.ntmps23
      go_wp2_with (first
        | (go_at_call 53; refine HCK.out.mono ?_; rintro e w1 ⟨rfl, hb⟩; have HB := Aside0.mk hb; clear hb))
      go_loopg [1, 7] a1.toNat (fun kq v1 v7 w' => ∃ (n : Int) (ss : List S49) (css : List (List Value)), v1 = .int .i64 n ∧ Aside0 (0 ≤ n ∧ n ≤ kq ∧ n < l0.length) ∧ Aside0 (css.length = ss.length ∧ (∀ (j : Nat) x c, ss[j]? = some x → css[j]? = some c → k49.K w x c)) ∧ Aside0 (ss ++ upF l0 kq n = S0) ∧ Aside0 (Kd.R (Kd.raw 3) 49 w' w.heap.size (fun _ => True) v7 css) ∧ Aside0 (Below w.heap.size w w'))
      case atStart => exact ⟨a1, [], [], rfl, ⟨by have := HIN.out; omega⟩, ⟨rfl, fun j x c hx => by simp at hx⟩, ⟨HS.out.symm⟩, ⟨Kd.R_nil _ _ _ _ _⟩, HB⟩
      case round =>
        rename World => wr
        obtain ⟨n, ss, css, rfl, HN, HK, HSS, HR, HB⟩ := hrel
        by_cases hlt : 0 < n
        · have dl : decide (0 < n) = true := decide_eq_true hlt
          obtain ⟨kq, rfl⟩ : ∃ k, gk = k + 1 := ⟨gk - 1, by have := HN.out; omega⟩
          have hup := form_up HTF.out n hlt HN.out.2.2
          obtain ⟨ad, B1, b1, B3, b3, B4, b4, eA, hx0, hx1, hx2, hx3, hx4, hl1, hg1, hl3, hg3, hl4, hg4⟩ := at_T44 HC0.out n (by omega) HN.out.2.2
          cases eA
          replace hx0 := (HB.out.cell (World.block_lt_of_cell? w _ hx0)).trans hx0
          replace hx1 := (HB.out.cell (World.block_lt_of_cell? w _ hx1)).trans hx1
          have HX2 := Aside0.mk (fun (W : World) (hb : Below w.heap.size w W) => (hb.cell (World.block_lt_of_cell? w _ hx2)).trans hx2)
          have hss := HSS.out
          rw [upF, if_pos hlt] at hss
          have HK2 := Aside0.mk (k49_mk w (⟨(rd_T44 l0 n).f0, (rd_T44 l0 n).f1, ⟨#[]⟩⟩ : S49) hl1 hg1)
          have HS2 := Aside0.mk hss
          have HCL := Aside0.mk (show css.length ≤ 40 by
            have h1 := HSL.out
            rw [← hss, List.length_append] at h1
            have := HK.out.1
            omega)
          have HUP := Aside0.mk hup
          have p1 : (0 ≤ n) = True := eq_true (by omega)
          have p2 : (n < (l0.length : Int)) = True := eq_true HN.out.2.2
          have p3 : (n.toNat < l0.length) = True := eq_true (by have := HN.out; omega)
          generalize rd_T44 l0 n = x at *
          clear hss hup hx2 hx3 hx4 hl1 hg1 hl3 hg3 hl4 hg4 hlt
          go_wp2
          refine start_ (n := 15) (S := fun w' => w'.cell? (ad.add (n.toNat * 5)) = some (.string x.f0) ∧ w'.cell? ⟨(ad.add (n.toNat * 5)).block, (ad.add (n.toNat * 5)).off + 1, none⟩ = some (.slice B1 x.f1.length b1)) (ds := [13]) #[false, false, false, false, false, false, false, false, false, false, false, false, false, false, false] (by kernel_rfl) rfl rfl ⟨hx0, hx1⟩ (fun hHeld => ?_)
          refine pure_ (i := 0) (N := some 21) (v := ?_) (a' := ?_) #[true, false, false, false, false, false, false, false, false, false, false, false, false, false, false] rfl rfl (by kernel_rfl) (fun _ _ _ h => h) (Or.inl ⟨by rfl, ?_⟩) ?_ ?_
          rotate_left
          · intro w'
            go_simp
            with_reducible rfl
          rotate_left
          · simp only [Act.put, List.setIfInBounds_toArray, List.set_cons_zero, List.set_cons_succ]
            rfl
          refine pure_ (i := 1) (N := some 22) (v := ?_) (a' := ?_) #[true, true, false, false, false, false, false, false, false, false, false, false, false, false, false] rfl rfl (by kernel_rfl) (fun _ _ _ h => h) (Or.inl ⟨by rfl, ?_⟩) ?_ ?_
          rotate_left
          · intro w'
            go_simp
            with_reducible rfl
          rotate_left
          · simp only [Act.put, List.setIfInBounds_toArray, List.set_cons_zero, List.set_cons_succ]
            rfl
          refine pure_ (i := 2) (N := some 23) (v := ?_) (a' := ?_) #[true, true, true, false, false, false, false, false, false, false, false, false, false, false, false] rfl rfl (by kernel_rfl) (fun _ _ _ h => h) (Or.inl ⟨by rfl, ?_⟩) ?_ ?_
          rotate_left
          · intro w'
            go_simp
            with_reducible rfl
          rotate_left
          · simp only [Act.put, List.setIfInBounds_toArray, List.set_cons_zero, List.set_cons_succ]
            rfl
          refine pure_ (i := 3) (N := some 24) (v := ?_) (a' := ?_) #[true, true, true, true, false, false, false, false, false, false, false, false, false, false, false] rfl rfl (by kernel_rfl) (fun _ _ _ h => h) (Or.inl ⟨by rfl, ?_⟩) ?_ ?_
          rotate_left
          · intro w'
            go_simp
            with_reducible rfl
          rotate_left
          · simp only [Act.put, List.setIfInBounds_toArray, List.set_cons_zero, List.set_cons_succ]
            rfl
          refine pure_ (i := 4) (N := some 25) (v := ?_) (a' := ?_) #[true, true, true, true, true, false, false, false, false, false, false, false, false, false, false] rfl rfl (by kernel_rfl) (fun _ _ _ h => h) (Or.inl ⟨by rfl, ?_⟩) ?_ ?_
          rotate_left
          · intro w'
            go_simp
            with_reducible rfl
          rotate_left
          · simp only [Act.put, List.setIfInBounds_toArray, List.set_cons_zero, List.set_cons_succ]
            rfl
          refine pure_ (i := 6) (N := some 27) (v := ?_) (a' := ?_) #[true, true, true, true, true, false, true, false, false, false, false, false, false, false, false] rfl rfl (by kernel_rfl) (fun _ _ _ h => h) (Or.inl ⟨by rfl, ?_⟩) ?_ ?_
          rotate_left
          · intro w'
            go_simp
            with_reducible rfl
          rotate_left
          · simp only [Act.put, List.setIfInBounds_toArray, List.set_cons_zero, List.set_cons_succ]
            rfl
          refine pure_ (i := 7) (N := some 28) (v := ?_) (a' := ?_) #[true, true, true, true, true, false, true, true, false, false, false, false, false, false, false] rfl rfl (by kernel_rfl) (fun _ _ _ h => h) (Or.inl ⟨by rfl, ?_⟩) ?_ ?_
          rotate_left
          · intro w'
            go_simp
            with_reducible rfl
          rotate_left
          · simp only [Act.put, List.setIfInBounds_toArray, List.set_cons_zero, List.set_cons_succ]
            rfl
          refine pure_ (i := 8) (N := some 29) (v := ?_) (a' := ?_) #[true, true, true, true, true, false, true, true, true, false, false, false, false, false, false] rfl rfl (by kernel_rfl) (fun _ _ _ h => h) (Or.inl ⟨by rfl, ?_⟩) ?_ ?_
          rotate_left
          · intro w'
            go_simp
            with_reducible rfl
          rotate_left
          · simp only [Act.put, List.setIfInBounds_toArray, List.set_cons_zero, List.set_cons_succ]
            rfl
          refine pure_ (i := 9) (N := some 30) (v := ?_) (a' := ?_) #[true, true, true, true, true, false, true, true, true, true, false, false, false, false, false] rfl rfl (by kernel_rfl) (fun _ _ _ h => h) (Or.inl ⟨by rfl, ?_⟩) ?_ ?_
          rotate_left
          · intro w'
            go_simp
            with_reducible rfl
          rotate_left
          · simp only [Act.put, List.setIfInBounds_toArray, List.set_cons_zero, List.set_cons_succ]
            rfl
          refine take_ (i := 5) (N := some 26) (v := (.string x.f0)) (a' := ?_) #[true, true, true, true, true, true, true, true, true, true, false, false, false, false, false] rfl rfl (by kernel_rfl) (fun _ _ _ h => h) (Or.inl ⟨by rfl, ?_⟩) hHeld ?_ ?_
          rotate_left
          rotate_left
          · simp only [Act.put, List.setIfInBounds_toArray, List.set_cons_zero, List.set_cons_succ]
            rfl
          rotate_left
          · rintro w' ⟨s0, s1⟩
            go_simp
          refine take_ (i := 10) (N := some 31) (v := (.slice B1 x.f1.length b1)) (a' := ?_) #[true, true, true, true, true, true, true, true, true, true, true, false, false, false, false] rfl rfl (by kernel_rfl) (fun _ _ _ h => h) (Or.inl ⟨by rfl, ?_⟩) hHeld ?_ ?_
          rotate_left
          rotate_left
          · simp only [Act.put, List.setIfInBounds_toArray, List.set_cons_zero, List.set_cons_succ]
            rfl
          rotate_left
          · rintro w' ⟨s0, s1⟩
            go_simp
          refine pure_ (i := 11) (N := some 32) (v := ?_) (a' := ?_) #[true, true, true, true, true, true, true, true, true, true, true, true, false, false, false] rfl rfl (by kernel_rfl) (fun _ _ _ h => h) (Or.inl ⟨by rfl, ?_⟩) ?_ ?_
          rotate_left
          · intro w'
            go_simp
            with_reducible rfl
          rotate_left
          · simp only [Act.put, List.setIfInBounds_toArray, List.set_cons_zero, List.set_cons_succ]
            rfl
          obtain ⟨X, hX⟩ : ∃ X, X = wr.drew := ⟨_, rfl⟩
          have HRX := Aside0.mk (show Kd.R (Kd.raw 3) 49 X w.heap.size (fun _ => True) _ css by rw [hX]; exact Kd.R_drew HR.out)
          have HBX := Aside0.mk (show Below w.heap.size w X by rw [hX]; exact below_drew1 HB.out)
          rw [← hX] at hHeld ⊢
          clear hX
          refine one_ (i := 12) (N := some 33) #[true, true, true, true, true, true, true, true, true, true, true, true, true, false, false] rfl rfl (by kernel_rfl) (by decide) (fun K hK => ?_)
          refine event_stepN (by rfl) rfl (v := .slice (some ⟨X.heap.size, 0, none⟩) 1 1) (w1 := X.alloc (.cells #[.string x.f0, .slice B1 x.f1.length b1, .string ⟨#[]⟩] 49)) (by first | (go_simp; done) | (go_simp; rfl)) (hK.out _ _ ⟨((below_alloc (Below.refl X.heap.size X) _).cell (World.block_lt_of_cell? _ _ hHeld.1)).trans hHeld.1, ((below_alloc (Below.refl X.heap.size X) _).cell (World.block_lt_of_cell? _ _ hHeld.2)).trans hHeld.2⟩ (fun hHeld => ?_))
          clear hK K
          simp only [Act.put, List.setIfInBounds_toArray, List.set_cons_zero, List.set_cons_succ]
          refine last_ (i := 13) (N := some 34) #[true, true, true, true, true, true, true, true, true, true, true, true, true, true, false] rfl rfl (by kernel_rfl) (by decide) (fun K hK => ?_)
          refine Kd.R_append_step (Kd.raw 3) (w0 := w) w.heap.size (by rfl) (.tmp 21) (.tmp 33) 36 49 (.agg #[(.string ⟨#[]⟩), (.slice none 0 0), (.string ⟨#[]⟩)]) 56 rfl Tryd.underlying36 info49 rfl (by decide) (by decide) _ css [.string x.f0, .slice B1 x.f1.length b1, .string ⟨#[]⟩] [.string x.f0, .slice B1 x.f1.length b1, .string ⟨#[]⟩] (fun _ => True) (fun _ => False) rfl rfl ⟨rfl, rfl, by intro u hu; simp at hu; rcases hu with rfl | rfl | rfl <;> rfl⟩ (fun _ h => h.elim) (fun _ _ => trivial) HRX.out HBX.out HBX.out.size (by have := HCL.out; omega) ?_
          intro v1 w1 ho hb hg hat
          refine hK.out _ _ ?_
          have HR2 := Aside0.mk ho
          have HB2 := Aside0.mk hb
          clear hK K ho hb hg hat hHeld hx0 hx1
          simp only [Act.put, List.getElem_toArray, List.getElem_cons_succ, List.getElem_cons_zero, List.setIfInBounds_toArray, List.set_cons_zero, List.set_cons_succ]
          refine pure_ (i := 14) (N := some 7) (v := ?_) (a' := ?_) #[true, true, true, true, true, true, true, true, true, true, true, true, true, true, true] rfl rfl (by kernel_rfl) (fun _ _ _ h => h) (Or.inl ⟨by rfl, ?_⟩) ?_ ?_
          rotate_left
          · intro w'
            go_simp
            with_reducible rfl
          rotate_left
          · simp only [Act.put, List.setIfInBounds_toArray, List.set_cons_zero, List.set_cons_succ]
            rfl
          refine done_ (n := 0) (by kernel_rfl) ?_
          have hx2 := HX2.out _ HB2.out
          go_wp2
          go_roundg kq
          case measure => omega
          case rel =>
            refine ⟨x.f2, ss ++ [(⟨x.f0, x.f1, ⟨#[]⟩⟩ : S49)], css ++ [[.string x.f0, .slice B1 x.f1.length b1, .string ⟨#[]⟩]], rfl, ⟨by have h1 := HUP.out; have h2 := HN.out; omega⟩, ⟨by rw [List.length_append, List.length_append, HK.out.1]; rfl, fun j y c hy hc => ?_⟩, ⟨by rw [List.append_assoc]; exact HS2.out⟩, HR2, HB2⟩
            by_cases hj : j < ss.length
            · rw [List.getElem?_append_left hj] at hy
              rw [List.getElem?_append_left (by rw [HK.out.1]; exact hj)] at hc
              exact HK.out.2 j y c hy hc
            · rw [List.getElem?_append_right (by omega)] at hy
              rw [List.getElem?_append_right (by rw [HK.out.1]; omega), HK.out.1] at hc
              have hz : j - ss.length = 0 := by
                have := (List.getElem?_eq_some_iff.1 hy).1
                rw [List.length_singleton] at this
                omega
              rw [hz] at hy hc
              obtain rfl := Option.some.inj hy
              obtain rfl := Option.some.inj hc
              exact HK2.out
        · have dl : decide (0 < n) = false := decide_eq_false hlt
          have hss := HSS.out
          rw [show upF l0 gk n = [] by cases gk with | zero => rfl | succ k => (rw [upF, if_neg hlt]), List.append_nil] at hss
          subst hss
          clear hlt
          obtain ⟨hok, inner, ⟨hlen, ho⟩, hr⟩ := HR.out
          rcases ho with ⟨hv, hz⟩ | ⟨g, cap, cur, hv, hbg, hh, hic, hcm, hcs, htk⟩
          · subst hv
            have hz' : ss = [] := List.eq_nil_of_length_eq_zero (by rw [← HK.out.1]; exact hz)
            subst hz'
            clear hok hlen hr hz
            go_wp2_with (first
              | (go_at_call 58; refine (reverse_nil _).mono ?_; rintro e w2 ⟨⟨v, rfl⟩, rfl⟩)
              | (go_at_call 59; refine (HSH.out none 0 0 _ HB.out rfl ⟨rfl, by omega, fun hp => absurd hp (Nat.lt_irrefl 0)⟩ (Nat.le_refl 0)).mono ?_; rintro e w3 ⟨rfl, hb⟩; have HB3 := Aside0.mk (below_step HB.out hb); clear hb))
            go_ret2
            exact ⟨rfl, HB3.out⟩
          · subst hv
            have hseg : ∀ (k : Nat) c, css[k]? = some c → seg cur.toList 3 k = c := fun k c hk => by
              have h1 := (hr.2 k c hk).1
              have h2 : k < css.length := (List.getElem?_eq_some_iff.1 hk).1
              rw [← htk] at h1
              have h3 := seg_take cur.toList css.length k h2
              exact h3.symm.trans h1
            have hshape : ∀ k, k < css.length → ∃ s A m c t, seg cur.toList 3 k = [.string s, .slice A m c, .string t] := fun k hk => by
              obtain ⟨x, hx⟩ : ∃ x, ss[k]? = some x := ⟨_, List.getElem?_eq_getElem (show k < ss.length by rw [← HK.out.1]; exact hk)⟩
              obtain ⟨c, hc⟩ : ∃ c, css[k]? = some c := ⟨_, List.getElem?_eq_getElem hk⟩
              obtain ⟨A', c', e', -, -⟩ := k49_open (HK.out.2 k x c hx hc)
              exact ⟨_, _, _, _, _, (hseg k c hc).trans e'⟩
            have HRV := Aside0.mk (reverse_calls g css.length cap cur wr hh hcs hic (by have := HSL.out; have := HK.out.1; omega) hshape)
            have HSG := Aside0.mk hseg
            have HIC := Aside0.mk hic
            have HBG := Aside0.mk hbg
            clear hok hlen hr hseg hshape hh hic hcm hcs htk hbg
            go_wp2_with (first
              | (go_at_call 58; refine HRV.out.mono ?_; rintro e w2 ⟨⟨v, rfl⟩, cur', hh2, hsz, hsg, hgr⟩; have HB2 := Aside0.mk (HB.out.grown hgr HB.out.size (fun k' hk' => by injection hk' with hk'; have := HBG.out; omega)); have HC2 := Aside0.mk (rev_C HK.out.1 (by have := HSL.out; omega) HK.out.2 HSG.out hh2 hsg HB2.out); clear hh2 hsz hsg hgr)
              | (go_at_call 59; refine (HSH.out (some ⟨g, 0, none⟩) cap css.length _ HB2.out (by rw [List.length_reverse, HK.out.1]) HC2.out HIC.out).mono ?_; rintro e w3 ⟨rfl, hb⟩; have HB3 := Aside0.mk (below_step HB2.out hb); clear hb))
            go_ret2
            exact ⟨rfl, HB3.out⟩
    · rw [if_neg hp] at H
      cases H
  · rw [if_neg he] at H
    simp only [Option.some.injEq, Prod.mk.injEq] at H
    obtain ⟨rfl, rfl⟩ := H
    have heb : (e0 == 0) = false := beq_eq_false_iff_ne.2 he
    have heb2 : (e0 != 0) = true := bne_iff_ne.2 he
    clear hr0 hc0 A1 he
    go_enter Tryd.func23, Tryd.ntmps23
    go_wp2_with (first
      | (go_at_call 53; refine HCK.out.mono ?_; rintro e w1 ⟨rfl, hb⟩; have HB := Aside0.mk hb; clear hb))
    go_ret2
    exact ⟨rfl, HB.out⟩
end Go.Proofs.YtnalcjgefbelnaaDoor.Q
end
section
namespace Go.Proofs.YtnalcjgefbelnaaDoor.Q
open Go.RowKit Go.Proofs.YtnalcjgefbelnaaDoorW.PrintWords Go.Proofs.YtnalcjgefbelnaaDoorW.PrintLast Go.Proofs.YtnalcjgefbelnaaDoorW.PrintMore
set_option linter.unusedVariables false
set_option linter.unusedSimpArgs false

attribute [local go_sem] max2_int min2_int max_two min_two max_three min_three max_four min_four
/-! ### tinderlaw08_alive: function 11 -/
def tinderlaw08_alive.f  : Option (Bool) := (tree_New.f).bind fun t12001 => ((tree_Add.f t12001 0 (⟨#[112, 99, 105]⟩ : ByteArray) (([31] : List Int))).bind fun bt12007 => ((tree_Add.f bt12007.1 bt12007.2.1 (⟨#[100, 105, 115, 107]⟩ : ByteArray) ([] : List Int)).bind fun bt12012 => ((tree_Path.f bt12012.1 bt12012.2.1).bind fun bt12017 => (if bt12007.2.2 = 0 then (if bt12012.2.2 = 0 then (if bt12007.2.1 = 1 then (if bt12012.2.1 = 2 then (if bt12017.1.toList = ([47, 112, 99, 105, 64, 49, 102, 47, 100, 105, 115, 107] : List UInt8) then (some (bt12017.2 == 0)) else (some false)) else (some false)) else (some false)) else (some false)) else (some false)))))
set_option maxHeartbeats 8000000 in
set_option maxRecDepth 100000 in
theorem tinderlaw08_alive.calls  (r : Bool) (w : World) (ht : QB.Tabs w) (h : tinderlaw08_alive.f  = some r) :
    Calls Tryd.prog 11 #[] w fun e w' => e = .returned (.bool r) ∧ Below w.heap.size w w' := by
  have HB := Aside0.mk (Below.refl w.heap.size w)
  have H : ((tree_New.f).bind fun t12001 => ((tree_Add.f t12001 0 (⟨#[112, 99, 105]⟩ : ByteArray) (([31] : List Int))).bind fun bt12007 => ((tree_Add.f bt12007.1 bt12007.2.1 (⟨#[100, 105, 115, 107]⟩ : ByteArray) ([] : List Int)).bind fun bt12012 => ((tree_Path.f bt12012.1 bt12012.2.1).bind fun bt12017 => (if bt12007.2.2 = 0 then (if bt12012.2.2 = 0 then (if bt12007.2.1 = 1 then (if bt12012.2.1 = 2 then (if bt12017.1.toList = ([47, 112, 99, 105, 64, 49, 102, 47, 100, 105, 115, 107] : List UInt8) then (some (bt12017.2 == 0)) else (some false)) else (some false)) else (some false)) else (some false)) else (some false)))))) = some r := h
  clear h
  replace H := Option.bind_eq_some_iff.mp H
  obtain ⟨t12001, A10, H⟩ := H
  replace H : ((tree_Add.f t12001 0 (⟨#[112, 99, 105]⟩ : ByteArray) (([31] : List Int))).bind fun bt12007 => ((tree_Add.f bt12007.1 bt12007.2.1 (⟨#[100, 105, 115, 107]⟩ : ByteArray) ([] : List Int)).bind fun bt12012 => ((tree_Path.f bt12012.1 bt12012.2.1).bind fun bt12017 => (if bt12007.2.2 = 0 then (if bt12012.2.2 = 0 then (if bt12007.2.1 = 1 then (if bt12012.2.1 = 2 then (if bt12017.1.toList = ([47, 112, 99, 105, 64, 49, 102, 47, 100, 105, 115, 107] : List UInt8) then (some (bt12017.2 == 0)) else (some false)) else (some false)) else (some false)) else (some false)) else (some false))))) = some r := H
  have A1 := Aside0.mk A10
  clear A10
  obtain ⟨y12004, hy12004⟩ : ∃ y_ : List Int, y_ = (([31] : List Int)) := ⟨_, rfl⟩
  replace H : ((tree_Add.f t12001 0 (⟨#[112, 99, 105]⟩ : ByteArray) y12004).bind fun bt12007 => ((tree_Add.f bt12007.1 bt12007.2.1 (⟨#[100, 105, 115, 107]⟩ : ByteArray) ([] : List Int)).bind fun bt12012 => ((tree_Path.f bt12012.1 bt12012.2.1).bind fun bt12017 => (if bt12007.2.2 = 0 then (if bt12012.2.2 = 0 then (if bt12007.2.1 = 1 then (if bt12012.2.1 = 2 then (if bt12017.1.toList = ([47, 112, 99, 105, 64, 49, 102, 47, 100, 105, 115, 107] : List UInt8) then (some (bt12017.2 == 0)) else (some false)) else (some false)) else (some false)) else (some false)) else (some false))))) = some r := by first | (rw [hy12004]; with_reducible exact H) | (have H2_ := (Option.bind_some _ _).symm.trans H; rw [hy12004]; with_reducible exact H2_) | (have H2_ := (Option.bind_some _ _).symm.trans H; with_reducible exact H2_) | with_reducible exact H | (rw [hy12004]; exact H) | exact H
  have Ny12004 := Aside0.mk hy12004
  clear hy12004
  replace H := Option.bind_eq_some_iff.mp H
  obtain ⟨⟨t12007, t12008, t12009⟩, A20, H⟩ := H
  replace H : ((tree_Add.f t12007 t12008 (⟨#[100, 105, 115, 107]⟩ : ByteArray) ([] : List Int)).bind fun bt12012 => ((tree_Path.f bt12012.1 bt12012.2.1).bind fun bt12017 => (if t12009 = 0 then (if bt12012.2.2 = 0 then (if t12008 = 1 then (if bt12012.2.1 = 2 then (if bt12017.1.toList = ([47, 112, 99, 105, 64, 49, 102, 47, 100, 105, 115, 107] : List UInt8) then (some (bt12017.2 == 0)) else (some false)) else (some false)) else (some false)) else (some false)) else (some false)))) = some r := H
  have A2 := Aside0.mk A20
  clear A20
  replace H := Option.bind_eq_some_iff.mp H
  obtain ⟨⟨t12012, t12013, t12014⟩, A30, H⟩ := H
  replace H : ((tree_Path.f t12012 t12013).bind fun bt12017 => (if t12009 = 0 then (if t12014 = 0 then (if t12008 = 1 then (if t12013 = 2 then (if bt12017.1.toList = ([47, 112, 99, 105, 64, 49, 102, 47, 100, 105, 115, 107] : List UInt8) then (some (bt12017.2 == 0)) else (some false)) else (some false)) else (some false)) else (some false)) else (some false))) = some r := H
  have A3 := Aside0.mk A30
  clear A30
  replace H := Option.bind_eq_some_iff.mp H
  obtain ⟨⟨t12017, t12018⟩, A40, H⟩ := H
  replace H : (if t12009 = 0 then (if t12014 = 0 then (if t12008 = 1 then (if t12013 = 2 then (if t12017.toList = ([47, 112, 99, 105, 64, 49, 102, 47, 100, 105, 115, 107] : List UInt8) then (some (t12018 == 0)) else (some false)) else (some false)) else (some false)) else (some false)) else (some false)) = some r := H
  have A4 := Aside0.mk A40
  clear A40
  by_cases c5 : t12009 = 0
  · rw [if_pos c5] at H
    have c5b0 : (t12009 == 0) = true := beq_iff_eq.mpr c5
    have c5b1 : (t12009 != 0) = false := bne_eq_false_iff_eq.mpr c5
    clear c5
    by_cases c6 : t12014 = 0
    · rw [if_pos c6] at H
      have c6b0 : (t12014 == 0) = true := beq_iff_eq.mpr c6
      have c6b1 : (t12014 != 0) = false := bne_eq_false_iff_eq.mpr c6
      clear c6
      by_cases c7 : t12008 = 1
      · rw [if_pos c7] at H
        have c7b0 : (t12008 == 1) = true := beq_iff_eq.mpr c7
        have c7b1 : (t12008 != 1) = false := bne_eq_false_iff_eq.mpr c7
        clear c7
        by_cases c8 : t12013 = 2
        · rw [if_pos c8] at H
          have c8b0 : (t12013 == 2) = true := beq_iff_eq.mpr c8
          have c8b1 : (t12013 != 2) = false := bne_eq_false_iff_eq.mpr c8
          clear c8
          by_cases c9 : t12017.toList = ([47, 112, 99, 105, 64, 49, 102, 47, 100, 105, 115, 107] : List UInt8)
          · rw [if_pos c9] at H
            have c9b0 : (t12017.toList == ([47, 112, 99, 105, 64, 49, 102, 47, 100, 105, 115, 107] : List UInt8)) = true := beq_iff_eq.mpr c9
            have c9b1 : (t12017.toList != ([47, 112, 99, 105, 64, 49, 102, 47, 100, 105, 115, 107] : List UInt8)) = false := bne_eq_false_iff_eq.mpr c9
            clear c9
            obtain rfl := Option.some.inj H
            go_enter Tryd.func11, Tryd.ntmps11
            go_wp2_with (first | ((with_reducible refine gate_callee (f := 16) rfl ?_); refine goesL_ (some 9) rfl rfl Tryd.func16 (by kernel_rfl) rfl #[] rfl (by (try simp only [List.map_toArray, List.map_cons, List.map_nil]); first | done | rfl | (simp only [List.length_drop, List.length_take]; rfl)) ?_; (with_reducible refine (tree_New.calls  t12001 _ A1.out).mono ?_); rintro e w10 ⟨v12002, rfl, ho0, hb⟩; refine ⟨_, rfl, ?_⟩; have n0_ := Aside0.mk (Kd.R_lower ho0 (below_size (by repeat (first | (with_reducible first | exact HB.out | apply below_alloc | apply pw_below_drewN | apply below_drew1) | exact HB.out)))); have n1_ := Aside0.mk (below_step (by repeat (first | (with_reducible first | exact HB.out | apply below_alloc | apply pw_below_drewN | apply below_drew1) | exact HB.out)) hb); clear HB; have HO12003 := n0_; have HB := n1_; clear n0_ n1_; (try clear hb); (try clear hb2); (try clear hk); (try clear hi); (try clear ho0)) | ((with_reducible refine gate_dst (N := 10) rfl ?_); refine Kd.R_lit (Kd.int .u32) _ 66 ?hg (N := 10) ?hd (xs := ([31] : List Int)) (inner := [.int .u32 31]) (ok := fun _ => True) (okp := fun _ => True) ?hr ?hp (fun _ hk => hk) trivial (Below.refl _ _) (Nat.le_refl _) (by simp) ?_; (case hd => rfl); (case hg => rfl); (case hr => first | (go_simp; done) | (go_simp; rfl)); (case hp => exact (Reps.one (show Kd.M (Kd.int .u32) _ _ _ 31 [.int .u32 31] from rfl) (Reps.none _ _))); intro v12005 w11 ho12 hb hg_ hnew_; clear hg_ hnew_; (first | rw [← Ny12004.out] at ho12 | (simp only [Int.reduceToNat] at ho12; rw [← Ny12004.out] at ho12)); have n0_ := Aside0.mk (Kd.R_elder' (by (with_reducible repeat (first | apply Kd.R_alloc | apply Kd.R_drewN | apply Kd.R_drew)); exact HO12003.out) (Kd.R_base ho12) hb); have n1_ := Aside0.mk (Kd.R_lower ho12 (below_size (by repeat (first | (with_reducible first | exact HB.out | apply below_alloc | apply pw_below_drewN | apply below_drew1) | exact HB.out)))); have n2_ := Aside0.mk (below_step (by repeat (first | (with_reducible first | exact HB.out | apply below_alloc | apply pw_below_drewN | apply below_drew1) | exact HB.out)) hb); clear HO12003; clear HB; have HO12003 := n0_; have HO12006 := n1_; have HB := n2_; clear n0_ n1_ n2_; clear hb ho12; obtain ⟨Ao13, co13, eo13⟩ := Kd.R_slice HO12003.out; subst eo13; obtain ⟨Ao14, co14, eo14⟩ := Kd.R_slice HO12006.out; subst eo14) | ((with_reducible refine gate_callee (f := 19) rfl ?_); refine goesL_ (some 11) rfl rfl Tryd.func19 (by kernel_rfl) rfl #[.slice Ao13 t12001.length co13, .int .i64 0, .string (⟨#[112, 99, 105]⟩ : ByteArray), .slice Ao14 y12004.length co14] rfl (by (try simp only [List.map_toArray, List.map_cons, List.map_nil]); first | done | rfl | (simp only [List.length_drop, List.length_take]; rfl)) ?_; (with_reducible refine (tree_Add.calls _ _ t12001 0 (⟨#[112, 99, 105]⟩ : ByteArray) _ _ y12004 t12007 t12008 t12009 _ ?side1 ?side2 ?side3 ?side4 A2.out).mono ?_); (case side1 => repeat (first | exact (Kd.R_reads' HO12003.out).2.2 | (with_reducible refine Kd.C_alloc ?_ _) | (with_reducible refine Kd.C_drewN ?_ _) | (with_reducible refine Kd.C_drew ?_))); (case side2 => exact (Kd.R_reads' HO12003.out).2.1); (case side3 => repeat (first | exact (Kd.R_reads' HO12006.out).2.2 | (with_reducible refine Kd.C_alloc ?_ _) | (with_reducible refine Kd.C_drewN ?_ _) | (with_reducible refine Kd.C_drew ?_))); (case side4 => exact (Kd.R_reads' HO12006.out).2.1); rintro e w15 ⟨v12010, rfl, ho0, hb⟩; refine ⟨_, rfl, ?_⟩; have n0_ := Aside0.mk (Kd.R_elder' (by (with_reducible repeat (first | apply Kd.R_alloc | apply Kd.R_drewN | apply Kd.R_drew)); exact HO12003.out) (Kd.R_base ho0) hb); have n1_ := Aside0.mk (Kd.R_below (by (with_reducible repeat (first | apply Kd.R_alloc | apply Kd.R_drewN | apply Kd.R_drew)); exact HO12006.out) hb); have n2_ := Aside0.mk (Kd.R_lower (Kd.R_new' (Kd.R_new' ho0 (Kd.R_lt (by (with_reducible repeat (first | apply Kd.R_alloc | apply Kd.R_drewN | apply Kd.R_drew)); exact HO12003.out))) (Kd.R_lt (by (with_reducible repeat (first | apply Kd.R_alloc | apply Kd.R_drewN | apply Kd.R_drew)); exact HO12006.out))) (below_size (by repeat (first | (with_reducible first | exact HB.out | apply below_alloc | apply pw_below_drewN | apply below_drew1) | exact HB.out)))); have n3_ := Aside0.mk (below_step (by repeat (first | (with_reducible first | exact HB.out | apply below_alloc | apply pw_below_drewN | apply below_drew1) | exact HB.out)) hb); clear HO12003; clear HO12006; clear HB; have HO12003 := n0_; have HO12006 := n1_; have HO12011 := n2_; have HB := n3_; clear n0_ n1_ n2_ n3_; (try clear hb); (try clear hb2); (try clear hk); (try clear hi); (try clear ho0); obtain ⟨Ao16, co16, eo16⟩ := Kd.R_slice HO12011.out; subst eo16) | ((with_reducible refine gate_callee (f := 19) rfl ?_); refine goesL_ (some 18) rfl rfl Tryd.func19 (by kernel_rfl) rfl #[.slice Ao16 t12007.length co16, .int .i64 t12008, .string (⟨#[100, 105, 115, 107]⟩ : ByteArray), .slice none 0 0] rfl (by (try simp only [List.map_toArray, List.map_cons, List.map_nil]); first | done | rfl | (simp only [List.length_drop, List.length_take]; rfl)) ?_; (refine (tree_Add.calls _ _ t12007 t12008 (⟨#[100, 105, 115, 107]⟩ : ByteArray) _ _ ([] : List Int) t12012 t12013 t12014 _ ?side1 ?side2 ?side3 ?side4 A3.out).mono ?_); (case side1 => repeat (first | exact (Kd.R_reads' HO12011.out).2.2 | (with_reducible refine Kd.C_alloc ?_ _) | (with_reducible refine Kd.C_drewN ?_ _) | (with_reducible refine Kd.C_drew ?_))); (case side2 => exact (Kd.R_reads' HO12011.out).2.1); (case side3 => exact Kd.C_nil _ _); (case side4 => exact Nat.le_refl _); rintro e w17 ⟨v12015, rfl, ho0, hb⟩; refine ⟨_, rfl, ?_⟩; have n0_ := Aside0.mk (Kd.R_elder' (by (with_reducible repeat (first | apply Kd.R_alloc | apply Kd.R_drewN | apply Kd.R_drew)); exact HO12003.out) (Kd.R_base ho0) hb); have n1_ := Aside0.mk (Kd.R_below (by (with_reducible repeat (first | apply Kd.R_alloc | apply Kd.R_drewN | apply Kd.R_drew)); exact HO12006.out) hb); have n2_ := Aside0.mk (Kd.R_elder' (by (with_reducible repeat (first | apply Kd.R_alloc | apply Kd.R_drewN | apply Kd.R_drew)); exact HO12011.out) (Kd.R_base ho0) hb); have n3_ := Aside0.mk (Kd.R_lower (Kd.R_new' (Kd.R_new' (Kd.R_new' ho0 (Kd.R_lt (by (with_reducible repeat (first | apply Kd.R_alloc | apply Kd.R_drewN | apply Kd.R_drew)); exact HO12003.out))) (Kd.R_lt (by (with_reducible repeat (first | apply Kd.R_alloc | apply Kd.R_drewN | apply Kd.R_drew)); exact HO12006.out))) (Kd.R_lt (by (with_reducible repeat (first | apply Kd.R_alloc | apply Kd.R_drewN | apply Kd.R_drew)); exact HO12011.out))) (below_size (by repeat (first | (with_reducible first | exact HB.out | apply below_alloc | apply pw_below_drewN | apply below_drew1) | exact HB.out)))); have n4_ := Aside0.mk (below_step (by repeat (first | (with_reducible first | exact HB.out | apply below_alloc | apply pw_below_drewN | apply below_drew1) | exact HB.out)) hb); clear HO12003; clear HO12006; clear HO12011; clear HB; have HO12003 := n0_; have HO12006 := n1_; have HO12011 := n2_; have HO12016 := n3_; have HB := n4_; clear n0_ n1_ n2_ n3_ n4_; (try clear hb); (try clear hb2); (try clear hk); (try clear hi); (try clear ho0); obtain ⟨Ao18, co18, eo18⟩ := Kd.R_slice HO12016.out; subst eo18) | ((with_reducible refine gate_callee (f := 23) rfl ?_); refine goesL_ (some 25) rfl rfl Tryd.func23 (by kernel_rfl) rfl #[.slice Ao18 t12012.length co18, .int .i64 t12013] rfl (by (try simp only [List.map_toArray, List.map_cons, List.map_nil]); first | done | rfl | (simp only [List.length_drop, List.length_take]; rfl)) ?_; (with_reducible refine (tree_Path.calls _ _ t12012 t12013 t12017 t12018 _ (QB.Tabs.below ht (by repeat (first | (with_reducible first | exact HB.out | apply below_alloc | apply pw_below_drewN | apply below_drew1 | refine below_set ?_ (Aside0.out (by assumption))) | exact HB.out))) ?side1 ?side2 A4.out).mono ?_); (case side1 => repeat (first | exact (Kd.R_reads' HO12016.out).2.2 | (with_reducible refine Kd.C_alloc ?_ _) | (with_reducible refine Kd.C_drewN ?_ _) | (with_reducible refine Kd.C_drew ?_))); (case side2 => exact (Kd.R_reads' HO12016.out).2.1); rintro e w19 ⟨rfl, hb⟩; refine ⟨_, rfl, ?_⟩; have n0_ := Aside0.mk (Kd.R_below (by (with_reducible repeat (first | apply Kd.R_alloc | apply Kd.R_drewN | apply Kd.R_drew)); exact HO12003.out) hb); have n1_ := Aside0.mk (Kd.R_below (by (with_reducible repeat (first | apply Kd.R_alloc | apply Kd.R_drewN | apply Kd.R_drew)); exact HO12006.out) hb); have n2_ := Aside0.mk (Kd.R_below (by (with_reducible repeat (first | apply Kd.R_alloc | apply Kd.R_drewN | apply Kd.R_drew)); exact HO12011.out) hb); have n3_ := Aside0.mk (Kd.R_below (by (with_reducible repeat (first | apply Kd.R_alloc | apply Kd.R_drewN | apply Kd.R_drew)); exact HO12016.out) hb); have n4_ := Aside0.mk (below_step (by repeat (first | (with_reducible first | exact HB.out | apply below_alloc | apply pw_below_drewN | apply below_drew1) | exact HB.out)) hb); clear HO12003; clear HO12006; clear HO12011; clear HO12016; clear HB; have HO12003 := n0_; have HO12006 := n1_; have HO12011 := n2_; have HO12016 := n3_; have HB := n4_; clear n0_ n1_ n2_ n3_ n4_; (try clear hb); (try clear hb2); (try clear hk); (try clear hi)))
            go_ret
            exact ⟨by first | rfl | (simp [errW_none, errW_some] <;> rfl) | (simp [*, errW_none, errW_some] <;> rfl), by repeat (first | (with_reducible first | exact HB.out | apply below_alloc | apply pw_below_drewN | apply below_drew1) | exact HB.out)⟩
          · rw [if_neg c9] at H
            have c9b0 : (t12017.toList == ([47, 112, 99, 105, 64, 49, 102, 47, 100, 105, 115, 107] : List UInt8)) = false := beq_eq_false_iff_ne.mpr c9
            have c9b1 : (t12017.toList != ([47, 112, 99, 105, 64, 49, 102, 47, 100, 105, 115, 107] : List UInt8)) = true := bne_iff_ne.mpr c9
            obtain rfl := Option.some.inj H
            go_enter Tryd.func11, Tryd.ntmps11
            go_wp2_with (first | ((with_reducible refine gate_callee (f := 16) rfl ?_); refine goesL_ (some 9) rfl rfl Tryd.func16 (by kernel_rfl) rfl #[] rfl (by (try simp only [List.map_toArray, List.map_cons, List.map_nil]); first | done | rfl | (simp only [List.length_drop, List.length_take]; rfl)) ?_; (with_reducible refine (tree_New.calls  t12001 _ A1.out).mono ?_); rintro e w20 ⟨v12002, rfl, ho0, hb⟩; refine ⟨_, rfl, ?_⟩; have n0_ := Aside0.mk (Kd.R_lower ho0 (below_size (by repeat (first | (with_reducible first | exact HB.out | apply below_alloc | apply pw_below_drewN | apply below_drew1) | exact HB.out)))); have n1_ := Aside0.mk (below_step (by repeat (first | (with_reducible first | exact HB.out | apply below_alloc | apply pw_below_drewN | apply below_drew1) | exact HB.out)) hb); clear HB; have HO12003 := n0_; have HB := n1_; clear n0_ n1_; (try clear hb); (try clear hb2); (try clear hk); (try clear hi); (try clear ho0)) | ((with_reducible refine gate_dst (N := 10) rfl ?_); refine Kd.R_lit (Kd.int .u32) _ 66 ?hg (N := 10) ?hd (xs := ([31] : List Int)) (inner := [.int .u32 31]) (ok := fun _ => True) (okp := fun _ => True) ?hr ?hp (fun _ hk => hk) trivial (Below.refl _ _) (Nat.le_refl _) (by simp) ?_; (case hd => rfl); (case hg => rfl); (case hr => first | (go_simp; done) | (go_simp; rfl)); (case hp => exact (Reps.one (show Kd.M (Kd.int .u32) _ _ _ 31 [.int .u32 31] from rfl) (Reps.none _ _))); intro v12005 w21 ho22 hb hg_ hnew_; clear hg_ hnew_; (first | rw [← Ny12004.out] at ho22 | (simp only [Int.reduceToNat] at ho22; rw [← Ny12004.out] at ho22)); have n0_ := Aside0.mk (Kd.R_elder' (by (with_reducible repeat (first | apply Kd.R_alloc | apply Kd.R_drewN | apply Kd.R_drew)); exact HO12003.out) (Kd.R_base ho22) hb); have n1_ := Aside0.mk (Kd.R_lower ho22 (below_size (by repeat (first | (with_reducible first | exact HB.out | apply below_alloc | apply pw_below_drewN | apply below_drew1) | exact HB.out)))); have n2_ := Aside0.mk (below_step (by repeat (first | (with_reducible first | exact HB.out | apply below_alloc | apply pw_below_drewN | apply below_drew1) | exact HB.out)) hb); clear HO12003; clear HB; have HO12003 := n0_; have HO12006 := n1_; have HB := n2_; clear n0_ n1_ n2_; clear hb ho22; obtain ⟨Ao23, co23, eo23⟩ := Kd.R_slice HO12003.out; subst eo23; obtain ⟨Ao24, co24, eo24⟩ := Kd.R_slice HO12006.out; subst eo24) | ((with_reducible refine gate_callee (f := 19) rfl ?_); refine goesL_ (some 11) rfl rfl Tryd.func19 (by kernel_rfl) rfl #[.slice Ao23 t12001.length co23, .int .i64 0, .string (⟨#[112, 99, 105]⟩ : ByteArray), .slice Ao24 y12004.length co24] rfl (by (try simp only [List.map_toArray, List.map_cons, List.map_nil]); first | done | rfl | (simp only [List.length_drop, List.length_take]; rfl)) ?_; (with_reducible refine (tree_Add.calls _ _ t12001 0 (⟨#[112, 99, 105]⟩ : ByteArray) _ _ y12004 t12007 t12008 t12009 _ ?side1 ?side2 ?side3 ?side4 A2.out).mono ?_); (case side1 => repeat (first | exact (Kd.R_reads' HO12003.out).2.2 | (with_reducible refine Kd.C_alloc ?_ _) | (with_reducible refine Kd.C_drewN ?_ _) | (with_reducible refine Kd.C_drew ?_))); (case side2 => exact (Kd.R_reads' HO12003.out).2.1); (case side3 => repeat (first | exact (Kd.R_reads' HO12006.out).2.2 | (with_reducible refine Kd.C_alloc ?_ _) | (with_reducible refine Kd.C_drewN ?_ _) | (with_reducible refine Kd.C_drew ?_))); (case side4 => exact (Kd.R_reads' HO12006.out).2.1); rintro e w25 ⟨v12010, rfl, ho0, hb⟩; refine ⟨_, rfl, ?_⟩; have n0_ := Aside0.mk (Kd.R_elder' (by (with_reducible repeat (first | apply Kd.R_alloc | apply Kd.R_drewN | apply Kd.R_drew)); exact HO12003.out) (Kd.R_base ho0) hb); have n1_ := Aside0.mk (Kd.R_below (by (with_reducible repeat (first | apply Kd.R_alloc | apply Kd.R_drewN | apply Kd.R_drew)); exact HO12006.out) hb); have n2_ := Aside0.mk (Kd.R_lower (Kd.R_new' (Kd.R_new' ho0 (Kd.R_lt (by (with_reducible repeat (first | apply Kd.R_alloc | apply Kd.R_drewN | apply Kd.R_drew)); exact HO12003.out))) (Kd.R_lt (by (with_reducible repeat (first | apply Kd.R_alloc | apply Kd.R_drewN | apply Kd.R_drew)); exact HO12006.out))) (below_size (by repeat (first | (with_reducible first | exact HB.out | apply below_alloc | apply pw_below_drewN | apply below_drew1) | exact HB.out)))); have n3_ := Aside0.mk (below_step (by repeat (first | (with_reducible first | exact HB.out | apply below_alloc | apply pw_below_drewN | apply below_drew1) | exact HB.out)) hb); clear HO12003; clear HO12006; clear HB; have HO12003 := n0_; have HO12006 := n1_; have HO12011 := n2_; have HB := n3_; clear n0_ n1_ n2_ n3_; (try clear hb); (try clear hb2); (try clear hk); (try clear hi); (try clear ho0); obtain ⟨Ao26, co26, eo26⟩ := Kd.R_slice HO12011.out; subst eo26) | ((with_reducible refine gate_callee (f := 19) rfl ?_); refine goesL_ (some 18) rfl rfl Tryd.func19 (by kernel_rfl) rfl #[.slice Ao26 t12007.length co26, .int .i64 t12008, .string (⟨#[100, 105, 115, 107]⟩ : ByteArray), .slice none 0 0] rfl (by (try simp only [List.map_toArray, List.map_cons, List.map_nil]); first | done | rfl | (simp only [List.length_drop, List.length_take]; rfl)) ?_; (refine (tree_Add.calls _ _ t12007 t12008 (⟨#[100, 105, 115, 107]⟩ : ByteArray) _ _ ([] : List Int) t12012 t12013 t12014 _ ?side1 ?side2 ?side3 ?side4 A3.out).mono ?_); (case side1 => repeat (first | exact (Kd.R_reads' HO12011.out).2.2 | (with_reducible refine Kd.C_alloc ?_ _) | (with_reducible refine Kd.C_drewN ?_ _) | (with_reducible refine Kd.C_drew ?_))); (case side2 => exact (Kd.R_reads' HO12011.out).2.1); (case side3 => exact Kd.C_nil _ _); (case side4 => exact Nat.le_refl _); rintro e w27 ⟨v12015, rfl, ho0, hb⟩; refine ⟨_, rfl, ?_⟩; have n0_ := Aside0.mk (Kd.R_elder' (by (with_reducible repeat (first | apply Kd.R_alloc | apply Kd.R_drewN | apply Kd.R_drew)); exact HO12003.out) (Kd.R_base ho0) hb); have n1_ := Aside0.mk (Kd.R_below (by (with_reducible repeat (first | apply Kd.R_alloc | apply Kd.R_drewN | apply Kd.R_drew)); exact HO12006.out) hb); have n2_ := Aside0.mk (Kd.R_elder' (by (with_reducible repeat (first | apply Kd.R_alloc | apply Kd.R_drewN | apply Kd.R_drew)); exact HO12011.out) (Kd.R_base ho0) hb); have n3_ := Aside0.mk (Kd.R_lower (Kd.R_new' (Kd.R_new' (Kd.R_new' ho0 (Kd.R_lt (by (with_reducible repeat (first | apply Kd.R_alloc | apply Kd.R_drewN | apply Kd.R_drew)); exact HO12003.out))) (Kd.R_lt (by (with_reducible repeat (first | apply Kd.R_alloc | apply Kd.R_drewN | apply Kd.R_drew)); exact HO12006.out))) (Kd.R_lt (by (with_reducible repeat (first | apply Kd.R_alloc | apply Kd.R_drewN | apply Kd.R_drew)); exact HO12011.out))) (below_size (by repeat (first | (with_reducible first | exact HB.out | apply below_alloc | apply pw_below_drewN | apply below_drew1) | exact HB.out)))); have n4_ := Aside0.mk (below_step (by repeat (first | (with_reducible first | exact HB.out | apply below_alloc | apply pw_below_drewN | apply below_drew1) | exact HB.out)) hb); clear HO12003; clear HO12006; clear HO12011; clear HB; have HO12003 := n0_; have HO12006 := n1_; have HO12011 := n2_; have HO12016 := n3_; have HB := n4_; clear n0_ n1_ n2_ n3_ n4_; (try clear hb); (try clear hb2); (try clear hk); (try clear hi); (try clear ho0); obtain ⟨Ao28, co28, eo28⟩ := Kd.R_slice HO12016.out; subst eo28) | ((with_reducible refine gate_callee (f := 23) rfl ?_); refine goesL_ (some 25) rfl rfl Tryd.func23 (by kernel_rfl) rfl #[.slice Ao28 t12012.length co28, .int .i64 t12013] rfl (by (try simp only [List.map_toArray, List.map_cons, List.map_nil]); first | done | rfl | (simp only [List.length_drop, List.length_take]; rfl)) ?_; (with_reducible refine (tree_Path.calls _ _ t12012 t12013 t12017 t12018 _ (QB.Tabs.below ht (by repeat (first | (with_reducible first | exact HB.out | apply below_alloc | apply pw_below_drewN | apply below_drew1 | refine below_set ?_ (Aside0.out (by assumption))) | exact HB.out))) ?side1 ?side2 A4.out).mono ?_); (case side1 => repeat (first | exact (Kd.R_reads' HO12016.out).2.2 | (with_reducible refine Kd.C_alloc ?_ _) | (with_reducible refine Kd.C_drewN ?_ _) | (with_reducible refine Kd.C_drew ?_))); (case side2 => exact (Kd.R_reads' HO12016.out).2.1); rintro e w29 ⟨rfl, hb⟩; refine ⟨_, rfl, ?_⟩; have n0_ := Aside0.mk (Kd.R_below (by (with_reducible repeat (first | apply Kd.R_alloc | apply Kd.R_drewN | apply Kd.R_drew)); exact HO12003.out) hb); have n1_ := Aside0.mk (Kd.R_below (by (with_reducible repeat (first | apply Kd.R_alloc | apply Kd.R_drewN | apply Kd.R_drew)); exact HO12006.out) hb); have n2_ := Aside0.mk (Kd.R_below (by (with_reducible repeat (first | apply Kd.R_alloc | apply Kd.R_drewN | apply Kd.R_drew)); exact HO12011.out) hb); have n3_ := Aside0.mk (Kd.R_below (by (with_reducible repeat (first | apply Kd.R_alloc | apply Kd.R_drewN | apply Kd.R_drew)); exact HO12016.out) hb); have n4_ := Aside0.mk (below_step (by repeat (first | (with_reducible first | exact HB.out | apply below_alloc | apply pw_below_drewN | apply below_drew1) | exact HB.out)) hb); clear HO12003; clear HO12006; clear HO12011; clear HO12016; clear HB; have HO12003 := n0_; have HO12006 := n1_; have HO12011 := n2_; have HO12016 := n3_; have HB := n4_; clear n0_ n1_ n2_ n3_ n4_; (try clear hb); (try clear hb2); (try clear hk); (try clear hi)))
            go_ret
            exact ⟨by first | rfl | (simp [errW_none, errW_some] <;> rfl) | (simp [*, errW_none, errW_some] <;> rfl), by repeat (first | (with_reducible first | exact HB.out | apply below_alloc | apply pw_below_drewN | apply below_drew1) | exact HB.out)⟩
        · rw [if_neg c8] at H
          have c8b0 : (t12013 == 2) = false := beq_eq_false_iff_ne.mpr c8
          have c8b1 : (t12013 != 2) = true := bne_iff_ne.mpr c8
          obtain rfl := Option.some.inj H
          go_enter Tryd.func11, Tryd.ntmps11
          go_wp2_with (first | ((with_reducible refine gate_callee (f := 16) rfl ?_); refine goesL_ (some 9) rfl rfl Tryd.func16 (by kernel_rfl) rfl #[] rfl (by (try simp only [List.map_toArray, List.map_cons, List.map_nil]); first | done | rfl | (simp only [List.length_drop, List.length_take]; rfl)) ?_; (with_reducible refine (tree_New.calls  t12001 _ A1.out).mono ?_); rintro e w30 ⟨v12002, rfl, ho0, hb⟩; refine ⟨_, rfl, ?_⟩; have n0_ := Aside0.mk (Kd.R_lower ho0 (below_size (by repeat (first | (with_reducible first | exact HB.out | apply below_alloc | apply pw_below_drewN | apply below_drew1) | exact HB.out)))); have n1_ := Aside0.mk (below_step (by repeat (first | (with_reducible first | exact HB.out | apply below_alloc | apply pw_below_drewN | apply below_drew1) | exact HB.out)) hb); clear HB; have HO12003 := n0_; have HB := n1_; clear n0_ n1_; (try clear hb); (try clear hb2); (try clear hk); (try clear hi); (try clear ho0)) | ((with_reducible refine gate_dst (N := 10) rfl ?_); refine Kd.R_lit (Kd.int .u32) _ 66 ?hg (N := 10) ?hd (xs := ([31] : List Int)) (inner := [.int .u32 31]) (ok := fun _ => True) (okp := fun _ => True) ?hr ?hp (fun _ hk => hk) trivial (Below.refl _ _) (Nat.le_refl _) (by simp) ?_; (case hd => rfl); (case hg => rfl); (case hr => first | (go_simp; done) | (go_simp; rfl)); (case hp => exact (Reps.one (show Kd.M (Kd.int .u32) _ _ _ 31 [.int .u32 31] from rfl) (Reps.none _ _))); intro v12005 w31 ho32 hb hg_ hnew_; clear hg_ hnew_; (first | rw [← Ny12004.out] at ho32 | (simp only [Int.reduceToNat] at ho32; rw [← Ny12004.out] at ho32)); have n0_ := Aside0.mk (Kd.R_elder' (by (with_reducible repeat (first | apply Kd.R_alloc | apply Kd.R_drewN | apply Kd.R_drew)); exact HO12003.out) (Kd.R_base ho32) hb); have n1_ := Aside0.mk (Kd.R_lower ho32 (below_size (by repeat (first | (with_reducible first | exact HB.out | apply below_alloc | apply pw_below_drewN | apply below_drew1) | exact HB.out)))); have n2_ := Aside0.mk (below_step (by repeat (first | (with_reducible first | exact HB.out | apply below_alloc | apply pw_below_drewN | apply below_drew1) | exact HB.out)) hb); clear HO12003; clear HB; have HO12003 := n0_; have HO12006 := n1_; have HB := n2_; clear n0_ n1_ n2_; clear hb ho32; obtain ⟨Ao33, co33, eo33⟩ := Kd.R_slice HO12003.out; subst eo33; obtain ⟨Ao34, co34, eo34⟩ := Kd.R_slice HO12006.out; subst eo34) | ((with_reducible refine gate_callee (f := 19) rfl ?_); refine goesL_ (some 11) rfl rfl Tryd.func19 (by kernel_rfl) rfl #[.slice Ao33 t12001.length co33, .int .i64 0, .string (⟨#[112, 99, 105]⟩ : ByteArray), .slice Ao34 y12004.length co34] rfl (by (try simp only [List.map_toArray, List.map_cons, List.map_nil]); first | done | rfl | (simp only [List.length_drop, List.length_take]; rfl)) ?_; (with_reducible refine (tree_Add.calls _ _ t12001 0 (⟨#[112, 99, 105]⟩ : ByteArray) _ _ y12004 t12007 t12008 t12009 _ ?side1 ?side2 ?side3 ?side4 A2.out).mono ?_); (case side1 => repeat (first | exact (Kd.R_reads' HO12003.out).2.2 | (with_reducible refine Kd.C_alloc ?_ _) | (with_reducible refine Kd.C_drewN ?_ _) | (with_reducible refine Kd.C_drew ?_))); (case side2 => exact (Kd.R_reads' HO12003.out).2.1); (case side3 => repeat (first | exact (Kd.R_reads' HO12006.out).2.2 | (with_reducible refine Kd.C_alloc ?_ _) | (with_reducible refine Kd.C_drewN ?_ _) | (with_reducible refine Kd.C_drew ?_))); (case side4 => exact (Kd.R_reads' HO12006.out).2.1); rintro e w35 ⟨v12010, rfl, ho0, hb⟩; refine ⟨_, rfl, ?_⟩; have n0_ := Aside0.mk (Kd.R_elder' (by (with_reducible repeat (first | apply Kd.R_alloc | apply Kd.R_drewN | apply Kd.R_drew)); exact HO12003.out) (Kd.R_base ho0) hb); have n1_ := Aside0.mk (Kd.R_below (by (with_reducible repeat (first | apply Kd.R_alloc | apply Kd.R_drewN | apply Kd.R_drew)); exact HO12006.out) hb); have n2_ := Aside0.mk (Kd.R_lower (Kd.R_new' (Kd.R_new' ho0 (Kd.R_lt (by (with_reducible repeat (first | apply Kd.R_alloc | apply Kd.R_drewN | apply Kd.R_drew)); exact HO12003.out))) (Kd.R_lt (by (with_reducible repeat (first | apply Kd.R_alloc | apply Kd.R_drewN | apply Kd.R_drew)); exact HO12006.out))) (below_size (by repeat (first | (with_reducible first | exact HB.out | apply below_alloc | apply pw_below_drewN | apply below_drew1) | exact HB.out)))); have n3_ := Aside0.mk (below_step (by repeat (first | (with_reducible first | exact HB.out | apply below_alloc | apply pw_below_drewN | apply below_drew1) | exact HB.out)) hb); clear HO12003; clear HO12006; clear HB; have HO12003 := n0_; have HO12006 := n1_; have HO12011 := n2_; have HB := n3_; clear n0_ n1_ n2_ n3_; (try clear hb); (try clear hb2); (try clear hk); (try clear hi); (try clear ho0); obtain ⟨Ao36, co36, eo36⟩ := Kd.R_slice HO12011.out; subst eo36) | ((with_reducible refine gate_callee (f := 19) rfl ?_); refine goesL_ (some 18) rfl rfl Tryd.func19 (by kernel_rfl) rfl #[.slice Ao36 t12007.length co36, .int .i64 t12008, .string (⟨#[100, 105, 115, 107]⟩ : ByteArray), .slice none 0 0] rfl (by (try simp only [List.map_toArray, List.map_cons, List.map_nil]); first | done | rfl | (simp only [List.length_drop, List.length_take]; rfl)) ?_; (refine (tree_Add.calls _ _ t12007 t12008 (⟨#[100, 105, 115, 107]⟩ : ByteArray) _ _ ([] : List Int) t12012 t12013 t12014 _ ?side1 ?side2 ?side3 ?side4 A3.out).mono ?_); (case side1 => repeat (first | exact (Kd.R_reads' HO12011.out).2.2 | (with_reducible refine Kd.C_alloc ?_ _) | (with_reducible refine Kd.C_drewN ?_ _) | (with_reducible refine Kd.C_drew ?_))); (case side2 => exact (Kd.R_reads' HO12011.out).2.1); (case side3 => exact Kd.C_nil _ _); (case side4 => exact Nat.le_refl _); rintro e w37 ⟨v12015, rfl, ho0, hb⟩; refine ⟨_, rfl, ?_⟩; have n0_ := Aside0.mk (Kd.R_elder' (by (with_reducible repeat (first | apply Kd.R_alloc | apply Kd.R_drewN | apply Kd.R_drew)); exact HO12003.out) (Kd.R_base ho0) hb); have n1_ := Aside0.mk (Kd.R_below (by (with_reducible repeat (first | apply Kd.R_alloc | apply Kd.R_drewN | apply Kd.R_drew)); exact HO12006.out) hb); have n2_ := Aside0.mk (Kd.R_elder' (by (with_reducible repeat (first | apply Kd.R_alloc | apply Kd.R_drewN | apply Kd.R_drew)); exact HO12011.out) (Kd.R_base ho0) hb); have n3_ := Aside0.mk (Kd.R_lower (Kd.R_new' (Kd.R_new' (Kd.R_new' ho0 (Kd.R_lt (by (with_reducible repeat (first | apply Kd.R_alloc | apply Kd.R_drewN | apply Kd.R_drew)); exact HO12003.out))) (Kd.R_lt (by (with_reducible repeat (first | apply Kd.R_alloc | apply Kd.R_drewN | apply Kd.R_drew)); exact HO12006.out))) (Kd.R_lt (by (with_reducible repeat (first | apply Kd.R_alloc | apply Kd.R_drewN | apply Kd.R_drew)); exact HO12011.out))) (below_size (by repeat (first | (with_reducible first | exact HB.out | apply below_alloc | apply pw_below_drewN | apply below_drew1) | exact HB.out)))); have n4_ := Aside0.mk (below_step (by repeat (first | (with_reducible first | exact HB.out | apply below_alloc | apply pw_below_drewN | apply below_drew1) | exact HB.out)) hb); clear HO12003; clear HO12006; clear HO12011; clear HB; have HO12003 := n0_; have HO12006 := n1_; have HO12011 := n2_; have HO12016 := n3_; have HB := n4_; clear n0_ n1_ n2_ n3_ n4_; (try clear hb); (try clear hb2); (try clear hk); (try clear hi); (try clear ho0); obtain ⟨Ao38, co38, eo38⟩ := Kd.R_slice HO12016.out; subst eo38) | ((with_reducible refine gate_callee (f := 23) rfl ?_); refine goesL_ (some 25) rfl rfl Tryd.func23 (by kernel_rfl) rfl #[.slice Ao38 t12012.length co38, .int .i64 t12013] rfl (by (try simp only [List.map_toArray, List.map_cons, List.map_nil]); first | done | rfl | (simp only [List.length_drop, List.length_take]; rfl)) ?_; (with_reducible refine (tree_Path.calls _ _ t12012 t12013 t12017 t12018 _ (QB.Tabs.below ht (by repeat (first | (with_reducible first | exact HB.out | apply below_alloc | apply pw_below_drewN | apply below_drew1 | refine below_set ?_ (Aside0.out (by assumption))) | exact HB.out))) ?side1 ?side2 A4.out).mono ?_); (case side1 => repeat (first | exact (Kd.R_reads' HO12016.out).2.2 | (with_reducible refine Kd.C_alloc ?_ _) | (with_reducible refine Kd.C_drewN ?_ _) | (with_reducible refine Kd.C_drew ?_))); (case side2 => exact (Kd.R_reads' HO12016.out).2.1); rintro e w39 ⟨rfl, hb⟩; refine ⟨_, rfl, ?_⟩; have n0_ := Aside0.mk (Kd.R_below (by (with_reducible repeat (first | apply Kd.R_alloc | apply Kd.R_drewN | apply Kd.R_drew)); exact HO12003.out) hb); have n1_ := Aside0.mk (Kd.R_below (by (with_reducible repeat (first | apply Kd.R_alloc | apply Kd.R_drewN | apply Kd.R_drew)); exact HO12006.out) hb); have n2_ := Aside0.mk (Kd.R_below (by (with_reducible repeat (first | apply Kd.R_alloc | apply Kd.R_drewN | apply Kd.R_drew)); exact HO12011.out) hb); have n3_ := Aside0.mk (Kd.R_below (by (with_reducible repeat (first | apply Kd.R_alloc | apply Kd.R_drewN | apply Kd.R_drew)); exact HO12016.out) hb); have n4_ := Aside0.mk (below_step (by repeat (first | (with_reducible first | exact HB.out | apply below_alloc | apply pw_below_drewN | apply below_drew1) | exact HB.out)) hb); clear HO12003; clear HO12006; clear HO12011; clear HO12016; clear HB; have HO12003 := n0_; have HO12006 := n1_; have HO12011 := n2_; have HO12016 := n3_; have HB := n4_; clear n0_ n1_ n2_ n3_ n4_; (try clear hb); (try clear hb2); (try clear hk); (try clear hi)))
          go_ret
          exact ⟨by first | rfl | (simp [errW_none, errW_some] <;> rfl) | (simp [*, errW_none, errW_some] <;> rfl), by repeat (first | (with_reducible first | exact HB.out | apply below_alloc | apply pw_below_drewN | apply below_drew1) | exact HB.out)⟩
      · rw [if_neg c7] at H
        have c7b0 : (t12008 == 1) = false := beq_eq_false_iff_ne.mpr c7
        have c7b1 : (t12008 != 1) = true := bne_iff_ne.mpr c7
        obtain rfl := Option.some.inj H
        go_enter Tryd.func11, Tryd.ntmps11
        go_wp2_with (first | ((with_reducible refine gate_callee (f := 16) rfl ?_); refine goesL_ (some 9) rfl rfl Tryd.func16 (by kernel_rfl) rfl #[] rfl (by (try simp only [List.map_toArray, List.map_cons, List.map_nil]); first | done | rfl | (simp only [List.length_drop, List.length_take]; rfl)) ?_; (with_reducible refine (tree_New.calls  t12001 _ A1.out).mono ?_); rintro e w40 ⟨v12002, rfl, ho0, hb⟩; refine ⟨_, rfl, ?_⟩; have n0_ := Aside0.mk (Kd.R_lower ho0 (below_size (by repeat (first | (with_reducible first | exact HB.out | apply below_alloc | apply pw_below_drewN | apply below_drew1) | exact HB.out)))); have n1_ := Aside0.mk (below_step (by repeat (first | (with_reducible first | exact HB.out | apply below_alloc | apply pw_below_drewN | apply below_drew1) | exact HB.out)) hb); clear HB; have HO12003 := n0_; have HB := n1_; clear n0_ n1_; (try clear hb); (try clear hb2); (try clear hk); (try clear hi); (try clear ho0)) | ((with_reducible refine gate_dst (N := 10) rfl ?_); refine Kd.R_lit (Kd.int .u32) _ 66 ?hg (N := 10) ?hd (xs := ([31] : List Int)) (inner := [.int .u32 31]) (ok := fun _ => True) (okp := fun _ => True) ?hr ?hp (fun _ hk => hk) trivial (Below.refl _ _) (Nat.le_refl _) (by simp) ?_; (case hd => rfl); (case hg => rfl); (case hr => first | (go_simp; done) | (go_simp; rfl)); (case hp => exact (Reps.one (show Kd.M (Kd.int .u32) _ _ _ 31 [.int .u32 31] from rfl) (Reps.none _ _))); intro v12005 w41 ho42 hb hg_ hnew_; clear hg_ hnew_; (first | rw [← Ny12004.out] at ho42 | (simp only [Int.reduceToNat] at ho42; rw [← Ny12004.out] at ho42)); have n0_ := Aside0.mk (Kd.R_elder' (by (with_reducible repeat (first | apply Kd.R_alloc | apply Kd.R_drewN | apply Kd.R_drew)); exact HO12003.out) (Kd.R_base ho42) hb); have n1_ := Aside0.mk (Kd.R_lower ho42 (below_size (by repeat (first | (with_reducible first | exact HB.out | apply below_alloc | apply pw_below_drewN | apply below_drew1) | exact HB.out)))); have n2_ := Aside0.mk (below_step (by repeat (first | (with_reducible first | exact HB.out | apply below_alloc | apply pw_below_drewN | apply below_drew1) | exact HB.out)) hb); clear HO12003; clear HB; have HO12003 := n0_; have HO12006 := n1_; have HB := n2_; clear n0_ n1_ n2_; clear hb ho42; obtain ⟨Ao43, co43, eo43⟩ := Kd.R_slice HO12003.out; subst eo43; obtain ⟨Ao44, co44, eo44⟩ := Kd.R_slice HO12006.out; subst eo44) | ((with_reducible refine gate_callee (f := 19) rfl ?_); refine goesL_ (some 11) rfl rfl Tryd.func19 (by kernel_rfl) rfl #[.slice Ao43 t12001.length co43, .int .i64 0, .string (⟨#[112, 99, 105]⟩ : ByteArray), .slice Ao44 y12004.length co44] rfl (by (try simp only [List.map_toArray, List.map_cons, List.map_nil]); first | done | rfl | (simp only [List.length_drop, List.length_take]; rfl)) ?_; (with_reducible refine (tree_Add.calls _ _ t12001 0 (⟨#[112, 99, 105]⟩ : ByteArray) _ _ y12004 t12007 t12008 t12009 _ ?side1 ?side2 ?side3 ?side4 A2.out).mono ?_); (case side1 => repeat (first | exact (Kd.R_reads' HO12003.out).2.2 | (with_reducible refine Kd.C_alloc ?_ _) | (with_reducible refine Kd.C_drewN ?_ _) | (with_reducible refine Kd.C_drew ?_))); (case side2 => exact (Kd.R_reads' HO12003.out).2.1); (case side3 => repeat (first | exact (Kd.R_reads' HO12006.out).2.2 | (with_reducible refine Kd.C_alloc ?_ _) | (with_reducible refine Kd.C_drewN ?_ _) | (with_reducible refine Kd.C_drew ?_))); (case side4 => exact (Kd.R_reads' HO12006.out).2.1); rintro e w45 ⟨v12010, rfl, ho0, hb⟩; refine ⟨_, rfl, ?_⟩; have n0_ := Aside0.mk (Kd.R_elder' (by (with_reducible repeat (first | apply Kd.R_alloc | apply Kd.R_drewN | apply Kd.R_drew)); exact HO12003.out) (Kd.R_base ho0) hb); have n1_ := Aside0.mk (Kd.R_below (by (with_reducible repeat (first | apply Kd.R_alloc | apply Kd.R_drewN | apply Kd.R_drew)); exact HO12006.out) hb); have n2_ := Aside0.mk (Kd.R_lower (Kd.R_new' (Kd.R_new' ho0 (Kd.R_lt (by (with_reducible repeat (first | apply Kd.R_alloc | apply Kd.R_drewN | apply Kd.R_drew)); exact HO12003.out))) (Kd.R_lt (by (with_reducible repeat (first | apply Kd.R_alloc | apply Kd.R_drewN | apply Kd.R_drew)); exact HO12006.out))) (below_size (by repeat (first | (with_reducible first | exact HB.out | apply below_alloc | apply pw_below_drewN | apply below_drew1) | exact HB.out)))); have n3_ := Aside0.mk (below_step (by repeat (first | (with_reducible first | exact HB.out | apply below_alloc | apply pw_below_drewN | apply below_drew1) | exact HB.out)) hb); clear HO12003; clear HO12006; clear HB; have HO12003 := n0_; have HO12006 := n1_; have HO12011 := n2_; have HB := n3_; clear n0_ n1_ n2_ n3_; (try clear hb); (try clear hb2); (try clear hk); (try clear hi); (try clear ho0); obtain ⟨Ao46, co46, eo46⟩ := Kd.R_slice HO12011.out; subst eo46) | ((with_reducible refine gate_callee (f := 19) rfl ?_); refine goesL_ (some 18) rfl rfl Tryd.func19 (by kernel_rfl) rfl #[.slice Ao46 t12007.length co46, .int .i64 t12008, .string (⟨#[100, 105, 115, 107]⟩ : ByteArray), .slice none 0 0] rfl (by (try simp only [List.map_toArray, List.map_cons, List.map_nil]); first | done | rfl | (simp only [List.length_drop, List.length_take]; rfl)) ?_; (refine (tree_Add.calls _ _ t12007 t12008 (⟨#[100, 105, 115, 107]⟩ : ByteArray) _ _ ([] : List Int) t12012 t12013 t12014 _ ?side1 ?side2 ?side3 ?side4 A3.out).mono ?_); (case side1 => repeat (first | exact (Kd.R_reads' HO12011.out).2.2 | (with_reducible refine Kd.C_alloc ?_ _) | (with_reducible refine Kd.C_drewN ?_ _) | (with_reducible refine Kd.C_drew ?_))); (case side2 => exact (Kd.R_reads' HO12011.out).2.1); (case side3 => exact Kd.C_nil _ _); (case side4 => exact Nat.le_refl _); rintro e w47 ⟨v12015, rfl, ho0, hb⟩; refine ⟨_, rfl, ?_⟩; have n0_ := Aside0.mk (Kd.R_elder' (by (with_reducible repeat (first | apply Kd.R_alloc | apply Kd.R_drewN | apply Kd.R_drew)); exact HO12003.out) (Kd.R_base ho0) hb); have n1_ := Aside0.mk (Kd.R_below (by (with_reducible repeat (first | apply Kd.R_alloc | apply Kd.R_drewN | apply Kd.R_drew)); exact HO12006.out) hb); have n2_ := Aside0.mk (Kd.R_elder' (by (with_reducible repeat (first | apply Kd.R_alloc | apply Kd.R_drewN | apply Kd.R_drew)); exact HO12011.out) (Kd.R_base ho0) hb); have n3_ := Aside0.mk (Kd.R_lower (Kd.R_new' (Kd.R_new' (Kd.R_new' ho0 (Kd.R_lt (by (with_reducible repeat (first | apply Kd.R_alloc | apply Kd.R_drewN | apply Kd.R_drew)); exact HO12003.out))) (Kd.R_lt (by (with_reducible repeat (first | apply Kd.R_alloc | apply Kd.R_drewN | apply Kd.R_drew)); exact HO12006.out))) (Kd.R_lt (by (with_reducible repeat (first | apply Kd.R_alloc | apply Kd.R_drewN | apply Kd.R_drew)); exact HO12011.out))) (below_size (by repeat (first | (with_reducible first | exact HB.out | apply below_alloc | apply pw_below_drewN | apply below_drew1) | exact HB.out)))); have n4_ := Aside0.mk (below_step (by repeat (first | (with_reducible first | exact HB.out | apply below_alloc | apply pw_below_drewN | apply below_drew1) | exact HB.out)) hb); clear HO12003; clear HO12006; clear HO12011; clear HB; have HO12003 := n0_; have HO12006 := n1_; have HO12011 := n2_; have HO12016 := n3_; have HB := n4_; clear n0_ n1_ n2_ n3_ n4_; (try clear hb); (try clear hb2); (try clear hk); (try clear hi); (try clear ho0); obtain ⟨Ao48, co48, eo48⟩ := Kd.R_slice HO12016.out; subst eo48) | ((with_reducible refine gate_callee (f := 23) rfl ?_); refine goesL_ (some 25) rfl rfl Tryd.func23 (by kernel_rfl) rfl #[.slice Ao48 t12012.length co48, .int .i64 t12013] rfl (by (try simp only [List.map_toArray, List.map_cons, List.map_nil]); first | done | rfl | (simp only [List.length_drop, List.length_take]; rfl)) ?_; (with_reducible refine (tree_Path.calls _ _ t12012 t12013 t12017 t12018 _ (QB.Tabs.below ht (by repeat (first | (with_reducible first | exact HB.out | apply below_alloc | apply pw_below_drewN | apply below_drew1 | refine below_set ?_ (Aside0.out (by assumption))) | exact HB.out))) ?side1 ?side2 A4.out).mono ?_); (case side1 => repeat (first | exact (Kd.R_reads' HO12016.out).2.2 | (with_reducible refine Kd.C_alloc ?_ _) | (with_reducible refine Kd.C_drewN ?_ _) | (with_reducible refine Kd.C_drew ?_))); (case side2 => exact (Kd.R_reads' HO12016.out).2.1); rintro e w49 ⟨rfl, hb⟩; refine ⟨_, rfl, ?_⟩; have n0_ := Aside0.mk (Kd.R_below (by (with_reducible repeat (first | apply Kd.R_alloc | apply Kd.R_drewN | apply Kd.R_drew)); exact HO12003.out) hb); have n1_ := Aside0.mk (Kd.R_below (by (with_reducible repeat (first | apply Kd.R_alloc | apply Kd.R_drewN | apply Kd.R_drew)); exact HO12006.out) hb); have n2_ := Aside0.mk (Kd.R_below (by (with_reducible repeat (first | apply Kd.R_alloc | apply Kd.R_drewN | apply Kd.R_drew)); exact HO12011.out) hb); have n3_ := Aside0.mk (Kd.R_below (by (with_reducible repeat (first | apply Kd.R_alloc | apply Kd.R_drewN | apply Kd.R_drew)); exact HO12016.out) hb); have n4_ := Aside0.mk (below_step (by repeat (first | (with_reducible first | exact HB.out | apply below_alloc | apply pw_below_drewN | apply below_drew1) | exact HB.out)) hb); clear HO12003; clear HO12006; clear HO12011; clear HO12016; clear HB; have HO12003 := n0_; have HO12006 := n1_; have HO12011 := n2_; have HO12016 := n3_; have HB := n4_; clear n0_ n1_ n2_ n3_ n4_; (try clear hb); (try clear hb2); (try clear hk); (try clear hi)))
        go_ret
        exact ⟨by first | rfl | (simp [errW_none, errW_some] <;> rfl) | (simp [*, errW_none, errW_some] <;> rfl), by repeat (first | (with_reducible first | exact HB.out | apply below_alloc | apply pw_below_drewN | apply below_drew1) | exact HB.out)⟩
    · rw [if_neg c6] at H
      have c6b0 : (t12014 == 0) = false := beq_eq_false_iff_ne.mpr c6
      have c6b1 : (t12014 != 0) = true := bne_iff_ne.mpr c6
      obtain rfl := Option.some.inj H
      go_enter Tryd.func11, Tryd.ntmps11
      go_wp2_with (first | ((with_reducible refine gate_callee (f := 16) rfl ?_); refine goesL_ (some 9) rfl rfl Tryd.func16 (by kernel_rfl) rfl #[] rfl (by (try simp only [List.map_toArray, List.map_cons, List.map_nil]); first | done | rfl | (simp only [List.length_drop, List.length_take]; rfl)) ?_; (with_reducible refine (tree_New.calls  t12001 _ A1.out).mono ?_); rintro e w50 ⟨v12002, rfl, ho0, hb⟩; refine ⟨_, rfl, ?_⟩; have n0_ := Aside0.mk (Kd.R_lower ho0 (below_size (by repeat (first | (with_reducible first | exact HB.out | apply below_alloc | apply pw_below_drewN | apply below_drew1) | exact HB.out)))); have n1_ := Aside0.mk (below_step (by repeat (first | (with_reducible first | exact HB.out | apply below_alloc | apply pw_below_drewN | apply below_drew1) | exact HB.out)) hb); clear HB; have HO12003 := n0_; have HB := n1_; clear n0_ n1_; (try clear hb); (try clear hb2); (try clear hk); (try clear hi); (try clear ho0)) | ((with_reducible refine gate_dst (N := 10) rfl ?_); refine Kd.R_lit (Kd.int .u32) _ 66 ?hg (N := 10) ?hd (xs := ([31] : List Int)) (inner := [.int .u32 31]) (ok := fun _ => True) (okp := fun _ => True) ?hr ?hp (fun _ hk => hk) trivial (Below.refl _ _) (Nat.le_refl _) (by simp) ?_; (case hd => rfl); (case hg => rfl); (case hr => first | (go_simp; done) | (go_simp; rfl)); (case hp => exact (Reps.one (show Kd.M (Kd.int .u32) _ _ _ 31 [.int .u32 31] from rfl) (Reps.none _ _))); intro v12005 w51 ho52 hb hg_ hnew_; clear hg_ hnew_; (first | rw [← Ny12004.out] at ho52 | (simp only [Int.reduceToNat] at ho52; rw [← Ny12004.out] at ho52)); have n0_ := Aside0.mk (Kd.R_elder' (by (with_reducible repeat (first | apply Kd.R_alloc | apply Kd.R_drewN | apply Kd.R_drew)); exact HO12003.out) (Kd.R_base ho52) hb); have n1_ := Aside0.mk (Kd.R_lower ho52 (below_size (by repeat (first | (with_reducible first | exact HB.out | apply below_alloc | apply pw_below_drewN | apply below_drew1) | exact HB.out)))); have n2_ := Aside0.mk (below_step (by repeat (first | (with_reducible first | exact HB.out | apply below_alloc | apply pw_below_drewN | apply below_drew1) | exact HB.out)) hb); clear HO12003; clear HB; have HO12003 := n0_; have HO12006 := n1_; have HB := n2_; clear n0_ n1_ n2_; clear hb ho52; obtain ⟨Ao53, co53, eo53⟩ := Kd.R_slice HO12003.out; subst eo53; obtain ⟨Ao54, co54, eo54⟩ := Kd.R_slice HO12006.out; subst eo54) | ((with_reducible refine gate_callee (f := 19) rfl ?_); refine goesL_ (some 11) rfl rfl Tryd.func19 (by kernel_rfl) rfl #[.slice Ao53 t12001.length co53, .int .i64 0, .string (⟨#[112, 99, 105]⟩ : ByteArray), .slice Ao54 y12004.length co54] rfl (by (try simp only [List.map_toArray, List.map_cons, List.map_nil]); first | done | rfl | (simp only [List.length_drop, List.length_take]; rfl)) ?_; (with_reducible refine (tree_Add.calls _ _ t12001 0 (⟨#[112, 99, 105]⟩ : ByteArray) _ _ y12004 t12007 t12008 t12009 _ ?side1 ?side2 ?side3 ?side4 A2.out).mono ?_); (case side1 => repeat (first | exact (Kd.R_reads' HO12003.out).2.2 | (with_reducible refine Kd.C_alloc ?_ _) | (with_reducible refine Kd.C_drewN ?_ _) | (with_reducible refine Kd.C_drew ?_))); (case side2 => exact (Kd.R_reads' HO12003.out).2.1); (case side3 => repeat (first | exact (Kd.R_reads' HO12006.out).2.2 | (with_reducible refine Kd.C_alloc ?_ _) | (with_reducible refine Kd.C_drewN ?_ _) | (with_reducible refine Kd.C_drew ?_))); (case side4 => exact (Kd.R_reads' HO12006.out).2.1); rintro e w55 ⟨v12010, rfl, ho0, hb⟩; refine ⟨_, rfl, ?_⟩; have n0_ := Aside0.mk (Kd.R_elder' (by (with_reducible repeat (first | apply Kd.R_alloc | apply Kd.R_drewN | apply Kd.R_drew)); exact HO12003.out) (Kd.R_base ho0) hb); have n1_ := Aside0.mk (Kd.R_below (by (with_reducible repeat (first | apply Kd.R_alloc | apply Kd.R_drewN | apply Kd.R_drew)); exact HO12006.out) hb); have n2_ := Aside0.mk (Kd.R_lower (Kd.R_new' (Kd.R_new' ho0 (Kd.R_lt (by (with_reducible repeat (first | apply Kd.R_alloc | apply Kd.R_drewN | apply Kd.R_drew)); exact HO12003.out))) (Kd.R_lt (by (with_reducible repeat (first | apply Kd.R_alloc | apply Kd.R_drewN | apply Kd.R_drew)); exact HO12006.out))) (below_size (by repeat (first | (with_reducible first | exact HB.out | apply below_alloc | apply pw_below_drewN | apply below_drew1) | exact HB.out)))); have n3_ := Aside0.mk (below_step (by repeat (first | (with_reducible first | exact HB.out | apply below_alloc | apply pw_below_drewN | apply below_drew1) | exact HB.out)) hb); clear HO12003; clear HO12006; clear HB; have HO12003 := n0_; have HO12006 := n1_; have HO12011 := n2_; have HB := n3_; clear n0_ n1_ n2_ n3_; (try clear hb); (try clear hb2); (try clear hk); (try clear hi); (try clear ho0); obtain ⟨Ao56, co56, eo56⟩ := Kd.R_slice HO12011.out; subst eo56) | ((with_reducible refine gate_callee (f := 19) rfl ?_); refine goesL_ (some 18) rfl rfl Tryd.func19 (by kernel_rfl) rfl #[.slice Ao56 t12007.length co56, .int .i64 t12008, .string (⟨#[100, 105, 115, 107]⟩ : ByteArray), .slice none 0 0] rfl (by (try simp only [List.map_toArray, List.map_cons, List.map_nil]); first | done | rfl | (simp only [List.length_drop, List.length_take]; rfl)) ?_; (refine (tree_Add.calls _ _ t12007 t12008 (⟨#[100, 105, 115, 107]⟩ : ByteArray) _ _ ([] : List Int) t12012 t12013 t12014 _ ?side1 ?side2 ?side3 ?side4 A3.out).mono ?_); (case side1 => repeat (first | exact (Kd.R_reads' HO12011.out).2.2 | (with_reducible refine Kd.C_alloc ?_ _) | (with_reducible refine Kd.C_drewN ?_ _) | (with_reducible refine Kd.C_drew ?_))); (case side2 => exact (Kd.R_reads' HO12011.out).2.1); (case side3 => exact Kd.C_nil _ _); (case side4 => exact Nat.le_refl _); rintro e w57 ⟨v12015, rfl, ho0, hb⟩; refine ⟨_, rfl, ?_⟩; have n0_ := Aside0.mk (Kd.R_elder' (by (with_reducible repeat (first | apply Kd.R_alloc | apply Kd.R_drewN | apply Kd.R_drew)); exact HO12003.out) (Kd.R_base ho0) hb); have n1_ := Aside0.mk (Kd.R_below (by (with_reducible repeat (first | apply Kd.R_alloc | apply Kd.R_drewN | apply Kd.R_drew)); exact HO12006.out) hb); have n2_ := Aside0.mk (Kd.R_elder' (by (with_reducible repeat (first | apply Kd.R_alloc | apply Kd.R_drewN | apply Kd.R_drew)); exact HO12011.out) (Kd.R_base ho0) hb); have n3_ := Aside0.mk (Kd.R_lower (Kd.R_new' (Kd.R_new' (Kd.R_new' ho0 (Kd.R_lt (by (with_reducible repeat (first | apply Kd.R_alloc | apply Kd.R_drewN | apply Kd.R_drew)); exact HO12003.out))) (Kd.R_lt (by (with_reducible repeat (first | apply Kd.R_alloc | apply Kd.R_drewN | apply Kd.R_drew)); exact HO12006.out))) (Kd.R_lt (by (with_reducible repeat (first | apply Kd.R_alloc | apply Kd.R_drewN | apply Kd.R_drew)); exact HO12011.out))) (below_size (by repeat (first | (with_reducible first | exact HB.out | apply below_alloc | apply pw_below_drewN | apply below_drew1) | exact HB.out)))); have n4_ := Aside0.mk (below_step (by repeat (first | (with_reducible first | exact HB.out | apply below_alloc | apply pw_below_drewN | apply below_drew1) | exact HB.out)) hb); clear HO12003; clear HO12006; clear HO12011; clear HB; have HO12003 := n0_; have HO12006 := n1_; have HO12011 := n2_; have HO12016 := n3_; have HB := n4_; clear n0_ n1_ n2_ n3_ n4_; (try clear hb); (try clear hb2); (try clear hk); (try clear hi); (try clear ho0); obtain ⟨Ao58, co58, eo58⟩ := Kd.R_slice HO12016.out; subst eo58) | ((with_reducible refine gate_callee (f := 23) rfl ?_); refine goesL_ (some 25) rfl rfl Tryd.func23 (by kernel_rfl) rfl #[.slice Ao58 t12012.length co58, .int .i64 t12013] rfl (by (try simp only [List.map_toArray, List.map_cons, List.map_nil]); first | done | rfl | (simp only [List.length_drop, List.length_take]; rfl)) ?_; (with_reducible refine (tree_Path.calls _ _ t12012 t12013 t12017 t12018 _ (QB.Tabs.below ht (by repeat (first | (with_reducible first | exact HB.out | apply below_alloc | apply pw_below_drewN | apply below_drew1 | refine below_set ?_ (Aside0.out (by assumption))) | exact HB.out))) ?side1 ?side2 A4.out).mono ?_); (case side1 => repeat (first | exact (Kd.R_reads' HO12016.out).2.2 | (with_reducible refine Kd.C_alloc ?_ _) | (with_reducible refine Kd.C_drewN ?_ _) | (with_reducible refine Kd.C_drew ?_))); (case side2 => exact (Kd.R_reads' HO12016.out).2.1); rintro e w59 ⟨rfl, hb⟩; refine ⟨_, rfl, ?_⟩; have n0_ := Aside0.mk (Kd.R_below (by (with_reducible repeat (first | apply Kd.R_alloc | apply Kd.R_drewN | apply Kd.R_drew)); exact HO12003.out) hb); have n1_ := Aside0.mk (Kd.R_below (by (with_reducible repeat (first | apply Kd.R_alloc | apply Kd.R_drewN | apply Kd.R_drew)); exact HO12006.out) hb); have n2_ := Aside0.mk (Kd.R_below (by (with_reducible repeat (first | apply Kd.R_alloc | apply Kd.R_drewN | apply Kd.R_drew)); exact HO12011.out) hb); have n3_ := Aside0.mk (Kd.R_below (by (with_reducible repeat (first | apply Kd.R_alloc | apply Kd.R_drewN | apply Kd.R_drew)); exact HO12016.out) hb); have n4_ := Aside0.mk (below_step (by repeat (first | (with_reducible first | exact HB.out | apply below_alloc | apply pw_below_drewN | apply below_drew1) | exact HB.out)) hb); clear HO12003; clear HO12006; clear HO12011; clear HO12016; clear HB; have HO12003 := n0_; have HO12006 := n1_; have HO12011 := n2_; have HO12016 := n3_; have HB := n4_; clear n0_ n1_ n2_ n3_ n4_; (try clear hb); (try clear hb2); (try clear hk); (try clear hi)))
      go_ret
      exact ⟨by first | rfl | (simp [errW_none, errW_some] <;> rfl) | (simp [*, errW_none, errW_some] <;> rfl), by repeat (first | (with_reducible first | exact HB.out | apply below_alloc | apply pw_below_drewN | apply below_drew1) | exact HB.out)⟩
  · rw [if_neg c5] at H
    have c5b0 : (t12009 == 0) = false := beq_eq_false_iff_ne.mpr c5
    have c5b1 : (t12009 != 0) = true := bne_iff_ne.mpr c5
    obtain rfl := Option.some.inj H
    go_enter Tryd.func11, Tryd.ntmps11
    go_wp2_with (first | ((with_reducible refine gate_callee (f := 16) rfl ?_); refine goesL_ (some 9) rfl rfl Tryd.func16 (by kernel_rfl) rfl #[] rfl (by (try simp only [List.map_toArray, List.map_cons, List.map_nil]); first | done | rfl | (simp only [List.length_drop, List.length_take]; rfl)) ?_; (with_reducible refine (tree_New.calls  t12001 _ A1.out).mono ?_); rintro e w60 ⟨v12002, rfl, ho0, hb⟩; refine ⟨_, rfl, ?_⟩; have n0_ := Aside0.mk (Kd.R_lower ho0 (below_size (by repeat (first | (with_reducible first | exact HB.out | apply below_alloc | apply pw_below_drewN | apply below_drew1) | exact HB.out)))); have n1_ := Aside0.mk (below_step (by repeat (first | (with_reducible first | exact HB.out | apply below_alloc | apply pw_below_drewN | apply below_drew1) | exact HB.out)) hb); clear HB; have HO12003 := n0_; have HB := n1_; clear n0_ n1_; (try clear hb); (try clear hb2); (try clear hk); (try clear hi); (try clear ho0)) | ((with_reducible refine gate_dst (N := 10) rfl ?_); refine Kd.R_lit (Kd.int .u32) _ 66 ?hg (N := 10) ?hd (xs := ([31] : List Int)) (inner := [.int .u32 31]) (ok := fun _ => True) (okp := fun _ => True) ?hr ?hp (fun _ hk => hk) trivial (Below.refl _ _) (Nat.le_refl _) (by simp) ?_; (case hd => rfl); (case hg => rfl); (case hr => first | (go_simp; done) | (go_simp; rfl)); (case hp => exact (Reps.one (show Kd.M (Kd.int .u32) _ _ _ 31 [.int .u32 31] from rfl) (Reps.none _ _))); intro v12005 w61 ho62 hb hg_ hnew_; clear hg_ hnew_; (first | rw [← Ny12004.out] at ho62 | (simp only [Int.reduceToNat] at ho62; rw [← Ny12004.out] at ho62)); have n0_ := Aside0.mk (Kd.R_elder' (by (with_reducible repeat (first | apply Kd.R_alloc | apply Kd.R_drewN | apply Kd.R_drew)); exact HO12003.out) (Kd.R_base ho62) hb); have n1_ := Aside0.mk (Kd.R_lower ho62 (below_size (by repeat (first | (with_reducible first | exact HB.out | apply below_alloc | apply pw_below_drewN | apply below_drew1) | exact HB.out)))); have n2_ := Aside0.mk (below_step (by repeat (first | (with_reducible first | exact HB.out | apply below_alloc | apply pw_below_drewN | apply below_drew1) | exact HB.out)) hb); clear HO12003; clear HB; have HO12003 := n0_; have HO12006 := n1_; have HB := n2_; clear n0_ n1_ n2_; clear hb ho62; obtain ⟨Ao63, co63, eo63⟩ := Kd.R_slice HO12003.out; subst eo63; obtain ⟨Ao64, co64, eo64⟩ := Kd.R_slice HO12006.out; subst eo64) | ((with_reducible refine gate_callee (f := 19) rfl ?_); refine goesL_ (some 11) rfl rfl Tryd.func19 (by kernel_rfl) rfl #[.slice Ao63 t12001.length co63, .int .i64 0, .string (⟨#[112, 99, 105]⟩ : ByteArray), .slice Ao64 y12004.length co64] rfl (by (try simp only [List.map_toArray, List.map_cons, List.map_nil]); first | done | rfl | (simp only [List.length_drop, List.length_take]; rfl)) ?_; (with_reducible refine (tree_Add.calls _ _ t12001 0 (⟨#[112, 99, 105]⟩ : ByteArray) _ _ y12004 t12007 t12008 t12009 _ ?side1 ?side2 ?side3 ?side4 A2.out).mono ?_); (case side1 => repeat (first | exact (Kd.R_reads' HO12003.out).2.2 | (with_reducible refine Kd.C_alloc ?_ _) | (with_reducible refine Kd.C_drewN ?_ _) | (with_reducible refine Kd.C_drew ?_))); (case side2 => exact (Kd.R_reads' HO12003.out).2.1); (case side3 => repeat (first | exact (Kd.R_reads' HO12006.out).2.2 | (with_reducible refine Kd.C_alloc ?_ _) | (with_reducible refine Kd.C_drewN ?_ _) | (with_reducible refine Kd.C_drew ?_))); (case side4 => exact (Kd.R_reads' HO12006.out).2.1); rintro e w65 ⟨v12010, rfl, ho0, hb⟩; refine ⟨_, rfl, ?_⟩; have n0_ := Aside0.mk (Kd.R_elder' (by (with_reducible repeat (first | apply Kd.R_alloc | apply Kd.R_drewN | apply Kd.R_drew)); exact HO12003.out) (Kd.R_base ho0) hb); have n1_ := Aside0.mk (Kd.R_below (by (with_reducible repeat (first | apply Kd.R_alloc | apply Kd.R_drewN | apply Kd.R_drew)); exact HO12006.out) hb); have n2_ := Aside0.mk (Kd.R_lower (Kd.R_new' (Kd.R_new' ho0 (Kd.R_lt (by (with_reducible repeat (first | apply Kd.R_alloc | apply Kd.R_drewN | apply Kd.R_drew)); exact HO12003.out))) (Kd.R_lt (by (with_reducible repeat (first | apply Kd.R_alloc | apply Kd.R_drewN | apply Kd.R_drew)); exact HO12006.out))) (below_size (by repeat (first | (with_reducible first | exact HB.out | apply below_alloc | apply pw_below_drewN | apply below_drew1) | exact HB.out)))); have n3_ := Aside0.mk (below_step (by repeat (first | (with_reducible first | exact HB.out | apply below_alloc | apply pw_below_drewN | apply below_drew1) | exact HB.out)) hb); clear HO12003; clear HO12006; clear HB; have HO12003 := n0_; have HO12006 := n1_; have HO12011 := n2_; have HB := n3_; clear n0_ n1_ n2_ n3_; (try clear hb); (try clear hb2); (try clear hk); (try clear hi); (try clear ho0); obtain ⟨Ao66, co66, eo66⟩ := Kd.R_slice HO12011.out; subst eo66) | ((with_reducible refine gate_callee (f := 19) rfl ?_); refine goesL_ (some 18) rfl rfl Tryd.func19 (by kernel_rfl) rfl #[.slice Ao66 t12007.length co66, .int .i64 t12008, .string (⟨#[100, 105, 115, 107]⟩ : ByteArray), .slice none 0 0] rfl (by (try simp only [List.map_toArray, List.map_cons, List.map_nil]); first | done | rfl | (simp only [List.length_drop, List.length_take]; rfl)) ?_; (refine (tree_Add.calls _ _ t12007 t12008 (⟨#[100, 105, 115, 107]⟩ : ByteArray) _ _ ([] : List Int) t12012 t12013 t12014 _ ?side1 ?side2 ?side3 ?side4 A3.out).mono ?_); (case side1 => repeat (first | exact (Kd.R_reads' HO12011.out).2.2 | (with_reducible refine Kd.C_alloc ?_ _) | (with_reducible refine Kd.C_drewN ?_ _) | (with_reducible refine Kd.C_drew ?_))); (case side2 => exact (Kd.R_reads' HO12011.out).2.1); (case side3 => exact Kd.C_nil _ _); (case side4 => exact Nat.le_refl _); rintro e w67 ⟨v12015, rfl, ho0, hb⟩; refine ⟨_, rfl, ?_⟩; have n0_ := Aside0.mk (Kd.R_elder' (by (with_reducible repeat (first | apply Kd.R_alloc | apply Kd.R_drewN | apply Kd.R_drew)); exact HO12003.out) (Kd.R_base ho0) hb); have n1_ := Aside0.mk (Kd.R_below (by (with_reducible repeat (first | apply Kd.R_alloc | apply Kd.R_drewN | apply Kd.R_drew)); exact HO12006.out) hb); have n2_ := Aside0.mk (Kd.R_elder' (by (with_reducible repeat (first | apply Kd.R_alloc | apply Kd.R_drewN | apply Kd.R_drew)); exact HO12011.out) (Kd.R_base ho0) hb); have n3_ := Aside0.mk (Kd.R_lower (Kd.R_new' (Kd.R_new' (Kd.R_new' ho0 (Kd.R_lt (by (with_reducible repeat (first | apply Kd.R_alloc | apply Kd.R_drewN | apply Kd.R_drew)); exact HO12003.out))) (Kd.R_lt (by (with_reducible repeat (first | apply Kd.R_alloc | apply Kd.R_drewN | apply Kd.R_drew)); exact HO12006.out))) (Kd.R_lt (by (with_reducible repeat (first | apply Kd.R_alloc | apply Kd.R_drewN | apply Kd.R_drew)); exact HO12011.out))) (below_size (by repeat (first | (with_reducible first | exact HB.out | apply below_alloc | apply pw_below_drewN | apply below_drew1) | exact HB.out)))); have n4_ := Aside0.mk (below_step (by repeat (first | (with_reducible first | exact HB.out | apply below_alloc | apply pw_below_drewN | apply below_drew1) | exact HB.out)) hb); clear HO12003; clear HO12006; clear HO12011; clear HB; have HO12003 := n0_; have HO12006 := n1_; have HO12011 := n2_; have HO12016 := n3_; have HB := n4_; clear n0_ n1_ n2_ n3_ n4_; (try clear hb); (try clear hb2); (try clear hk); (try clear hi); (try clear ho0); obtain ⟨Ao68, co68, eo68⟩ := Kd.R_slice HO12016.out; subst eo68) | ((with_reducible refine gate_callee (f := 23) rfl ?_); refine goesL_ (some 25) rfl rfl Tryd.func23 (by kernel_rfl) rfl #[.slice Ao68 t12012.length co68, .int .i64 t12013] rfl (by (try simp only [List.map_toArray, List.map_cons, List.map_nil]); first | done | rfl | (simp only [List.length_drop, List.length_take]; rfl)) ?_; (with_reducible refine (tree_Path.calls _ _ t12012 t12013 t12017 t12018 _ (QB.Tabs.below ht (by repeat (first | (with_reducible first | exact HB.out | apply below_alloc | apply pw_below_drewN | apply below_drew1 | refine below_set ?_ (Aside0.out (by assumption))) | exact HB.out))) ?side1 ?side2 A4.out).mono ?_); (case side1 => repeat (first | exact (Kd.R_reads' HO12016.out).2.2 | (with_reducible refine Kd.C_alloc ?_ _) | (with_reducible refine Kd.C_drewN ?_ _) | (with_reducible refine Kd.C_drew ?_))); (case side2 => exact (Kd.R_reads' HO12016.out).2.1); rintro e w69 ⟨rfl, hb⟩; refine ⟨_, rfl, ?_⟩; have n0_ := Aside0.mk (Kd.R_below (by (with_reducible repeat (first | apply Kd.R_alloc | apply Kd.R_drewN | apply Kd.R_drew)); exact HO12003.out) hb); have n1_ := Aside0.mk (Kd.R_below (by (with_reducible repeat (first | apply Kd.R_alloc | apply Kd.R_drewN | apply Kd.R_drew)); exact HO12006.out) hb); have n2_ := Aside0.mk (Kd.R_below (by (with_reducible repeat (first | apply Kd.R_alloc | apply Kd.R_drewN | apply Kd.R_drew)); exact HO12011.out) hb); have n3_ := Aside0.mk (Kd.R_below (by (with_reducible repeat (first | apply Kd.R_alloc | apply Kd.R_drewN | apply Kd.R_drew)); exact HO12016.out) hb); have n4_ := Aside0.mk (below_step (by repeat (first | (with_reducible first | exact HB.out | apply below_alloc | apply pw_below_drewN | apply below_drew1) | exact HB.out)) hb); clear HO12003; clear HO12006; clear HO12011; clear HO12016; clear HB; have HO12003 := n0_; have HO12006 := n1_; have HO12011 := n2_; have HO12016 := n3_; have HB := n4_; clear n0_ n1_ n2_ n3_ n4_; (try clear hb); (try clear hb2); (try clear hk); (try clear hi)))
    go_ret
    exact ⟨by first | rfl | (simp [errW_none, errW_some] <;> rfl) | (simp [*, errW_none, errW_some] <;> rfl), by repeat (first | (with_reducible first | exact HB.out | apply below_alloc | apply pw_below_drewN | apply below_drew1) | exact HB.out)⟩

end Go.Proofs.YtnalcjgefbelnaaDoor.Q
end
section
set_option linter.unusedSimpArgs false
set_option linter.unusedVariables false
namespace Go.Proofs.YtnalcjgefbelnaaDoor.Q
open Go.RowKit Go.Proofs.YtnalcjgefbelnaaDoorW.PrintWords Go.Proofs.YtnalcjgefbelnaaDoorW.PrintLast
def aT1 : List S44 := [⟨⟨#[]⟩, [], -1, [], []⟩, ⟨⟨#[112, 99, 105]⟩, [31], 0, [], []⟩]
def aT2 : List S44 := [⟨⟨#[]⟩, [], -1, [], []⟩, ⟨⟨#[112, 99, 105]⟩, [31], 0, [], []⟩, ⟨⟨#[100, 105, 115, 107]⟩, [], 1, [], []⟩]
def aS : List S49 := [⟨⟨#[112, 99, 105]⟩, [31], ⟨#[]⟩⟩, ⟨⟨#[100, 105, 115, 107]⟩, [], ⟨#[]⟩⟩]
theorem units31 : unitsL [31] = [49, 102] := by
  rw [units_one]
  unfold shL
  rw [showL_big (by decide) (by decide), showL_small (by decide)]
  rfl
theorem pathAS : pathL aS = [47, 112, 99, 105, 64, 49, 102, 47, 100, 105, 115, 107] := by
  show stepB ⟨⟨#[112, 99, 105]⟩, [31], ⟨#[]⟩⟩ ++ (stepB ⟨⟨#[100, 105, 115, 107]⟩, [], ⟨#[]⟩⟩ ++ []) = _
  unfold stepB
  dsimp only
  rw [units31]
  rfl
theorem showAS : showP aS = (⟨#[47, 112, 99, 105, 64, 49, 102, 47, 100, 105, 115, 107]⟩, 0) := by
  unfold showP
  rw [pathAS, if_neg (by decide), if_pos (by kernel_rfl), if_neg (by decide)]
theorem okAS : pathOk aS = true := by
  unfold pathOk
  rw [pathAS]
  kernel_rfl
theorem path_alive : tree_Path.f aT2 2 = some (⟨#[47, 112, 99, 105, 64, 49, 102, 47, 100, 105, 115, 107]⟩, 0) := by
  unfold tree_Path.f
  rw [show tree_check.f aT2 2 = some 0 by kernel_rfl, Option.bind_some, if_pos rfl, show (upF aT2 (2 : Int).toNat 2).reverse = aS by kernel_rfl, okAS, if_pos rfl, showAS]
theorem alive08_f : tinderlaw08_alive.f = some true := by
  unfold tinderlaw08_alive.f
  rw [show tree_New.f = some [(⟨⟨#[]⟩, [], -1, [], []⟩ : S44)] from rfl, Option.bind_some, show tree_Add.f [(⟨⟨#[]⟩, [], -1, [], []⟩ : S44)] 0 (⟨#[112, 99, 105]⟩ : ByteArray) [31] = some (aT1, 1, 0) by kernel_rfl, Option.bind_some]
  dsimp only
  rw [show tree_Add.f aT1 1 (⟨#[100, 105, 115, 107]⟩ : ByteArray) [] = some (aT2, 2, 0) by kernel_rfl, Option.bind_some]
  dsimp only
  rw [path_alive, Option.bind_some]
  kernel_rfl
end Go.Proofs.YtnalcjgefbelnaaDoor.Q
end
section
set_option linter.unusedSimpArgs false
set_option linter.unusedVariables false
namespace Go.Proofs.YtnalcjgefbelnaaDoor.Q
open Go.RowKit Go.Proofs.YtnalcjgefbelnaaDoorW.PrintWords Go.Proofs.YtnalcjgefbelnaaDoorW.PrintLast
def PropG (p : S53) : Prop := p.f0.size ≤ 140737488351232 ∧ (p.f1.length * 1 ≤ 140737488351232 ∧ ∀ b ∈ p.f1, (Lit.int .u8 b).wf = true)
def NodeG (a : S44) : Prop := a.f0.size ≤ 140737488351232 ∧ (a.f1.length * 4 ≤ 140737488351232 ∧ ∀ b ∈ a.f1, (Lit.int .u32 b).wf = true) ∧ (Lit.int .i64 a.f2).wf = true ∧ (a.f3.length * 40 ≤ 140737488351232 ∧ ∀ b ∈ a.f3, PropG b) ∧ (a.f4.length * 4 ≤ 140737488351232 ∧ ∀ b ∈ a.f4, (Lit.int .u32 b).wf = true)
def TreeG (z : List S44) : Prop := z.length * 96 ≤ 140737488351232 ∧ ∀ a ∈ z, NodeG a
def CaseG (z : S30) : Prop := TreeG z.f0 ∧ (Lit.int .i64 z.f1).wf = true ∧ z.f2.size ≤ 140737488351232 ∧ (z.f3.length * 1 ≤ 140737488351232 ∧ ∀ b ∈ z.f3, (Lit.int .u8 b).wf = true)
def UnitG (l : List Int) : Prop := l.length * 4 ≤ 140737488351232 ∧ ∀ b ∈ l, (Lit.int .u32 b).wf = true
theorem good_of {z : List S44} (h : TreeG z) : GoodT z := by
  refine ⟨by have := h.1; omega, fun x hx => ?_⟩
  obtain ⟨-, h1, -, h3, h4⟩ := h.2 x hx
  refine ⟨by have := h1.1; omega, by have := h4.1; omega, by have := h3.1; omega, fun p hp => ?_⟩
  have := (h3.2 p hp).2.1
  omega
end Go.Proofs.YtnalcjgefbelnaaDoor.Q
end
section
namespace Go.Proofs.YtnalcjgefbelnaaDoor.Q
open Go.RowKit Go.Proofs.YtnalcjgefbelnaaDoorW.PrintWords Go.Proofs.YtnalcjgefbelnaaDoorW.PrintLast Go.Proofs.YtnalcjgefbelnaaDoorW.PrintMore
set_option linter.unusedVariables false
set_option linter.unusedSimpArgs false

attribute [local go_sem] max2_int min2_int max_two min_two max_three min_three max_four min_four
/-! ### tinderref08_New: function 17 -/
def tinderref08_New.f  : Option ((List (S44))) := some (([(⟨(⟨#[]⟩ : ByteArray), ([] : List Int), (-1), ([] : List (S53)), ([] : List Int)⟩ : S44)] : List (S44)))
set_option maxHeartbeats 8000000 in
set_option maxRecDepth 100000 in
theorem tinderref08_New.calls  (r : List (S44)) (w : World) (h : tinderref08_New.f  = some r) :
    Calls Tryd.prog 17 #[] w fun e w' => ∃ v0_ : Value, e = .returned (v0_) ∧ Kd.R k44 44 w' w.heap.size (fun _ => True) v0_ r ∧ Below w.heap.size w w' := by
  have hu44 := Tryd.underlying44
  have HB := Aside0.mk (Below.refl w.heap.size w)
  have H : (some (([(⟨(⟨#[]⟩ : ByteArray), ([] : List Int), (-1), ([] : List (S53)), ([] : List Int)⟩ : S44)] : List (S44)))) = some r := h
  clear h
  obtain ⟨y18001, hy18001⟩ : ∃ y_ : List (S44), y_ = (([(⟨(⟨#[]⟩ : ByteArray), ([] : List Int), (-1), ([] : List (S53)), ([] : List Int)⟩ : S44)] : List (S44))) := ⟨_, rfl⟩
  replace H : (some y18001) = some r := by first | (rw [hy18001]; with_reducible exact H) | (have H2_ := (Option.bind_some _ _).symm.trans H; rw [hy18001]; with_reducible exact H2_) | (have H2_ := (Option.bind_some _ _).symm.trans H; with_reducible exact H2_) | with_reducible exact H | (rw [hy18001]; exact H) | exact H
  have Ny18001 := Aside0.mk hy18001
  clear hy18001
  obtain rfl := Option.some.inj H
  go_enter Tryd.func17, Tryd.ntmps17
  go_wp2_with (first | ((with_reducible refine gate_dst (N := 2) rfl ?_); refine Kd.R_lit k44 _ 44 ?hg (N := 2) ?hd (xs := ([(⟨(⟨#[]⟩ : ByteArray), ([] : List Int), (-1), ([] : List (S53)), ([] : List Int)⟩ : S44)] : List (S44))) (inner := [.string (⟨#[]⟩ : ByteArray), .slice none 0 0, .int .i64 (-1), .slice none 0 0, .slice none 0 0]) (ok := fun _ => True) (okp := fun _ => True) ?hr ?hp (fun _ hk => hk) trivial (Below.refl _ _) (Nat.le_refl _) (by simp) ?_; (case hd => rfl); (case hg => rfl); (case hr => first | (go_simp; done) | (go_simp; rfl)); (case hp => exact (Reps.c5 (show Kd.M k44 _ _ _ (⟨(⟨#[]⟩ : ByteArray), ([] : List Int), (-1), ([] : List (S53)), ([] : List Int)⟩ : S44) [.string (⟨#[]⟩ : ByteArray), .slice none 0 0, .int .i64 (-1), .slice none 0 0, .slice none 0 0] from (k44_mkM _ _ _ (⟨(⟨#[]⟩ : ByteArray), ([] : List Int), (-1), ([] : List (S53)), ([] : List Int)⟩ : S44) (Kd.R_nil _ _ _ _ _) (Kd.R_nil _ _ _ _ _) (Kd.R_nil _ _ _ _ _))) (Reps.none _ _))); intro v18002 w1 ho2 hb hg_ hnew_; clear hg_ hnew_; (first | rw [← Ny18001.out] at ho2 | (simp only [Int.reduceToNat] at ho2; rw [← Ny18001.out] at ho2)); have n0_ := Aside0.mk (Kd.R_lower ho2 (below_size (by repeat (first | (with_reducible first | exact HB.out | apply below_alloc | apply pw_below_drewN | apply below_drew1) | exact HB.out)))); have n1_ := Aside0.mk (below_step (by repeat (first | (with_reducible first | exact HB.out | apply below_alloc | apply pw_below_drewN | apply below_drew1) | exact HB.out)) hb); clear HB; have HO18003 := n0_; have HB := n1_; clear n0_ n1_; clear hb ho2))
  go_ret
  exact ⟨_, by first | rfl | (simp [errW_none, errW_some] <;> rfl) | (simp [*, errW_none, errW_some] <;> rfl), by (with_reducible repeat (first | apply Kd.R_alloc | apply Kd.R_drewN | apply Kd.R_drew)); exact HO18003.out, by repeat (first | (with_reducible first | exact HB.out | apply below_alloc | apply pw_below_drewN | apply below_drew1) | exact HB.out)⟩

end Go.Proofs.YtnalcjgefbelnaaDoor.Q
end
section
namespace Go.Proofs.YtnalcjgefbelnaaDoor.Q
open Go.RowKit Go.Proofs.YtnalcjgefbelnaaDoorW.PrintWords Go.Proofs.YtnalcjgefbelnaaDoorW.PrintLast Go.Proofs.YtnalcjgefbelnaaDoorW.PrintMore
set_option linter.unusedVariables false
set_option linter.unusedSimpArgs false

attribute [local go_sem] max2_int min2_int max_two min_two max_three min_three max_four min_four
/-! ### tinderlaw08_TreeForms: function 3 -/
def tinderlaw08_TreeForms.f (k : Nat) (l0 : List (S44)) : Option (Bool) := (tinderlaw08_alive.f).bind fun t4001 => (if t4001 = true then ((tree_Formed.f l0).bind fun t4002 => ((tinderref08_Formed.f k l0).bind fun t4003 => (if (t4002 == t4003) = true then ((tree_Copy.f l0).bind fun t4004 => ((tinderref08_Same.f k t4004 l0).bind fun t4007 => (if t4007 = true then ((tree_New.f).bind fun t4008 => ((tinderref08_New.f).bind fun t4011 => ((tinderref08_Same.f k t4008 t4011).bind fun t4014 => (some t4014)))) else (some false)))) else (some false)))) else (some false))
set_option maxHeartbeats 8000000 in
set_option maxRecDepth 100000 in
theorem tinderlaw08_TreeForms.calls (k : Nat) (A0 : Option Addr) (c0 : Nat) (l0 : List (S44)) (r : Bool) (w : World) (ht : QB.Tabs w) (hr0 : Kd.C k44 w A0 l0.length l0) (hc0 : l0.length ≤ c0) (h : tinderlaw08_TreeForms.f k l0 = some r) :
    Calls Tryd.prog 3 #[.slice A0 l0.length c0] w fun e w' => e = .returned (.bool r) ∧ Below w.heap.size w w' := by
  have HR0 := Aside0.mk hr0
  have HC0 := Aside0.mk hc0
  clear hr0 hc0
  have HB := Aside0.mk (Below.refl w.heap.size w)
  have H : ((tinderlaw08_alive.f).bind fun t4001 => (if t4001 = true then ((tree_Formed.f l0).bind fun t4002 => ((tinderref08_Formed.f k l0).bind fun t4003 => (if (t4002 == t4003) = true then ((tree_Copy.f l0).bind fun t4004 => ((tinderref08_Same.f k t4004 l0).bind fun t4007 => (if t4007 = true then ((tree_New.f).bind fun t4008 => ((tinderref08_New.f).bind fun t4011 => ((tinderref08_Same.f k t4008 t4011).bind fun t4014 => (some t4014)))) else (some false)))) else (some false)))) else (some false))) = some r := h
  clear h
  replace H := Option.bind_eq_some_iff.mp H
  obtain ⟨t4001, A20, H⟩ := H
  replace H : (if t4001 = true then ((tree_Formed.f l0).bind fun t4002 => ((tinderref08_Formed.f k l0).bind fun t4003 => (if (t4002 == t4003) = true then ((tree_Copy.f l0).bind fun t4004 => ((tinderref08_Same.f k t4004 l0).bind fun t4007 => (if t4007 = true then ((tree_New.f).bind fun t4008 => ((tinderref08_New.f).bind fun t4011 => ((tinderref08_Same.f k t4008 t4011).bind fun t4014 => (some t4014)))) else (some false)))) else (some false)))) else (some false)) = some r := H
  have A2 := Aside0.mk A20
  clear A20
  by_cases c3 : t4001 = true
  · subst c3
    have H1 : ((tree_Formed.f l0).bind fun t4002 => ((tinderref08_Formed.f k l0).bind fun t4003 => (if (t4002 == t4003) = true then ((tree_Copy.f l0).bind fun t4004 => ((tinderref08_Same.f k t4004 l0).bind fun t4007 => (if t4007 = true then ((tree_New.f).bind fun t4008 => ((tinderref08_New.f).bind fun t4011 => ((tinderref08_Same.f k t4008 t4011).bind fun t4014 => (some t4014)))) else (some false)))) else (some false)))) = some r := by rw [if_pos rfl] at H; exact H
    clear H
    have H := H1
    clear H1
    replace H := Option.bind_eq_some_iff.mp H
    obtain ⟨t4002, A40, H⟩ := H
    replace H : ((tinderref08_Formed.f k l0).bind fun t4003 => (if (t4002 == t4003) = true then ((tree_Copy.f l0).bind fun t4004 => ((tinderref08_Same.f k t4004 l0).bind fun t4007 => (if t4007 = true then ((tree_New.f).bind fun t4008 => ((tinderref08_New.f).bind fun t4011 => ((tinderref08_Same.f k t4008 t4011).bind fun t4014 => (some t4014)))) else (some false)))) else (some false))) = some r := H
    have A4 := Aside0.mk A40
    clear A40
    replace H := Option.bind_eq_some_iff.mp H
    obtain ⟨t4003, A50, H⟩ := H
    replace H : (if (t4002 == t4003) = true then ((tree_Copy.f l0).bind fun t4004 => ((tinderref08_Same.f k t4004 l0).bind fun t4007 => (if t4007 = true then ((tree_New.f).bind fun t4008 => ((tinderref08_New.f).bind fun t4011 => ((tinderref08_Same.f k t4008 t4011).bind fun t4014 => (some t4014)))) else (some false)))) else (some false)) = some r := H
    have A5 := Aside0.mk A50
    clear A50
    by_cases c6 : (t4002 == t4003) = true
    · rw [if_pos c6] at H
      have c6b0 : (t4002 == t4003) = true := c6
      (try (have c6b1 : decide (t4002 = t4003) = true := by simpa using c6))
      (try (have c6b2 : (t4002 == t4003) = true := by simpa using c6))
      clear c6
      replace H := Option.bind_eq_some_iff.mp H
      obtain ⟨t4004, A70, H⟩ := H
      replace H : ((tinderref08_Same.f k t4004 l0).bind fun t4007 => (if t4007 = true then ((tree_New.f).bind fun t4008 => ((tinderref08_New.f).bind fun t4011 => ((tinderref08_Same.f k t4008 t4011).bind fun t4014 => (some t4014)))) else (some false))) = some r := H
      have A7 := Aside0.mk A70
      clear A70
      replace H := Option.bind_eq_some_iff.mp H
      obtain ⟨t4007, A80, H⟩ := H
      replace H : (if t4007 = true then ((tree_New.f).bind fun t4008 => ((tinderref08_New.f).bind fun t4011 => ((tinderref08_Same.f k t4008 t4011).bind fun t4014 => (some t4014)))) else (some false)) = some r := H
      have A8 := Aside0.mk A80
      clear A80
      by_cases c9 : t4007 = true
      · subst c9
        have H1 : ((tree_New.f).bind fun t4008 => ((tinderref08_New.f).bind fun t4011 => ((tinderref08_Same.f k t4008 t4011).bind fun t4014 => (some t4014)))) = some r := by rw [if_pos rfl] at H; exact H
        clear H
        have H := H1
        clear H1
        replace H := Option.bind_eq_some_iff.mp H
        obtain ⟨t4008, A100, H⟩ := H
        replace H : ((tinderref08_New.f).bind fun t4011 => ((tinderref08_Same.f k t4008 t4011).bind fun t4014 => (some t4014))) = some r := H
        have A10 := Aside0.mk A100
        clear A100
        replace H := Option.bind_eq_some_iff.mp H
        obtain ⟨t4011, A110, H⟩ := H
        replace H : ((tinderref08_Same.f k t4008 t4011).bind fun t4014 => (some t4014)) = some r := H
        have A11 := Aside0.mk A110
        clear A110
        replace H := Option.bind_eq_some_iff.mp H
        obtain ⟨t4014, A120, H⟩ := H
        replace H : (some t4014) = some r := H
        have A12 := Aside0.mk A120
        clear A120
        obtain rfl := Option.some.inj H
        go_enter Tryd.func3, Tryd.ntmps3
        go_wp2_with (first | ((with_reducible refine gate_callee (f := 11) rfl ?_); refine goesL_ (some 3) rfl rfl Tryd.func11 (by kernel_rfl) rfl #[] rfl (by (try simp only [List.map_toArray, List.map_cons, List.map_nil]); first | done | rfl | (simp only [List.length_drop, List.length_take]; rfl)) ?_; (with_reducible refine (tinderlaw08_alive.calls  true _ (QB.Tabs.below ht (by repeat (first | (with_reducible first | exact HB.out | apply below_alloc | apply pw_below_drewN | apply below_drew1 | refine below_set ?_ (Aside0.out (by assumption))) | exact HB.out))) A2.out).mono ?_); rintro e w13 ⟨rfl, hb⟩; refine ⟨_, rfl, ?_⟩; have n0_ := Aside0.mk (below_step (by repeat (first | (with_reducible first | exact HB.out | apply below_alloc | apply pw_below_drewN | apply below_drew1) | exact HB.out)) hb); clear HB; have HB := n0_; clear n0_; (try clear hb); (try clear hb2); (try clear hk); (try clear hi)) | (go_at_call 12; (with_reducible refine (tree_Formed.calls _ _ l0 t4002 _ ?side1 ?side2 A4.out).mono ?_); (case side1 => repeat (first | exact (Kd.C_below HR0.out HB.out) | (with_reducible refine Kd.C_alloc ?_ _) | (with_reducible refine Kd.C_drewN ?_ _) | (with_reducible refine Kd.C_drew ?_))); (case side2 => exact HC0.out); rintro e w14 ⟨rfl, hb⟩; have n0_ := Aside0.mk (below_step (by repeat (first | (with_reducible first | exact HB.out | apply below_alloc | apply pw_below_drewN | apply below_drew1) | exact HB.out)) hb); clear HB; have HB := n0_; clear n0_; (try clear hb); (try clear hb2); (try clear hk); (try clear hi)) | (go_at_call 13; (with_reducible refine (tinderref08_Formed.calls k _ _ l0 t4003 _ ?side1 ?side2 A5.out).mono ?_); (case side1 => repeat (first | exact (Kd.C_below HR0.out HB.out) | (with_reducible refine Kd.C_alloc ?_ _) | (with_reducible refine Kd.C_drewN ?_ _) | (with_reducible refine Kd.C_drew ?_))); (case side2 => exact HC0.out); rintro e w15 ⟨rfl, hb⟩; have n0_ := Aside0.mk (below_step (by repeat (first | (with_reducible first | exact HB.out | apply below_alloc | apply pw_below_drewN | apply below_drew1) | exact HB.out)) hb); clear HB; have HB := n0_; clear n0_; (try clear hb); (try clear hb2); (try clear hk); (try clear hi)) | (go_at_call 15; (with_reducible refine (tree_Copy.calls _ _ l0 t4004 _ ?side1 ?side2 A7.out).mono ?_); (case side1 => repeat (first | exact (Kd.C_below HR0.out HB.out) | (with_reducible refine Kd.C_alloc ?_ _) | (with_reducible refine Kd.C_drewN ?_ _) | (with_reducible refine Kd.C_drew ?_))); (case side2 => exact HC0.out); rintro e w16 ⟨v4005, rfl, ho0, hb⟩; replace ho0 := Kd.S_R ho0; have n0_ := Aside0.mk (Kd.R_lower ho0 (below_size (by repeat (first | (with_reducible first | exact HB.out | apply below_alloc | apply pw_below_drewN | apply below_drew1) | exact HB.out)))); have n1_ := Aside0.mk (below_step (by repeat (first | (with_reducible first | exact HB.out | apply below_alloc | apply pw_below_drewN | apply below_drew1) | exact HB.out)) hb); clear HB; have HO4006 := n0_; have HB := n1_; clear n0_ n1_; (try clear hb); (try clear hb2); (try clear hk); (try clear hi); (try clear ho0); obtain ⟨Ao17, co17, eo17⟩ := Kd.R_slice HO4006.out; subst eo17) | (go_at_call 14; (with_reducible refine (tinderref08_Same.calls k _ _ t4004 _ _ l0 true _ ?side1 ?side2 ?side3 ?side4 A8.out).mono ?_); (case side1 => repeat (first | exact (Kd.R_reads' HO4006.out).2.2 | (with_reducible refine Kd.C_alloc ?_ _) | (with_reducible refine Kd.C_drewN ?_ _) | (with_reducible refine Kd.C_drew ?_))); (case side2 => exact (Kd.R_reads' HO4006.out).2.1); (case side3 => repeat (first | exact (Kd.C_below HR0.out HB.out) | (with_reducible refine Kd.C_alloc ?_ _) | (with_reducible refine Kd.C_drewN ?_ _) | (with_reducible refine Kd.C_drew ?_))); (case side4 => exact HC0.out); rintro e w18 ⟨rfl, hb⟩; have n0_ := Aside0.mk (Kd.R_below (by (with_reducible repeat (first | apply Kd.R_alloc | apply Kd.R_drewN | apply Kd.R_drew)); exact HO4006.out) hb); have n1_ := Aside0.mk (below_step (by repeat (first | (with_reducible first | exact HB.out | apply below_alloc | apply pw_below_drewN | apply below_drew1) | exact HB.out)) hb); clear HO4006; clear HB; have HO4006 := n0_; have HB := n1_; clear n0_ n1_; (try clear hb); (try clear hb2); (try clear hk); (try clear hi)) | (go_at_call 16; (with_reducible refine (tree_New.calls  t4008 _ A10.out).mono ?_); rintro e w19 ⟨v4009, rfl, ho0, hb⟩; have n0_ := Aside0.mk (Kd.R_elder' (by (with_reducible repeat (first | apply Kd.R_alloc | apply Kd.R_drewN | apply Kd.R_drew)); exact HO4006.out) (Kd.R_base ho0) hb); have n1_ := Aside0.mk (Kd.R_lower (Kd.R_new' ho0 (Kd.R_lt (by (with_reducible repeat (first | apply Kd.R_alloc | apply Kd.R_drewN | apply Kd.R_drew)); exact HO4006.out))) (below_size (by repeat (first | (with_reducible first | exact HB.out | apply below_alloc | apply pw_below_drewN | apply below_drew1) | exact HB.out)))); have n2_ := Aside0.mk (below_step (by repeat (first | (with_reducible first | exact HB.out | apply below_alloc | apply pw_below_drewN | apply below_drew1) | exact HB.out)) hb); clear HO4006; clear HB; have HO4006 := n0_; have HO4010 := n1_; have HB := n2_; clear n0_ n1_ n2_; (try clear hb); (try clear hb2); (try clear hk); (try clear hi); (try clear ho0)) | (go_at_call 17; (with_reducible refine (tinderref08_New.calls  t4011 _ A11.out).mono ?_); rintro e w20 ⟨v4012, rfl, ho0, hb⟩; have n0_ := Aside0.mk (Kd.R_elder' (by (with_reducible repeat (first | apply Kd.R_alloc | apply Kd.R_drewN | apply Kd.R_drew)); exact HO4006.out) (Kd.R_base ho0) hb); have n1_ := Aside0.mk (Kd.R_elder' (by (with_reducible repeat (first | apply Kd.R_alloc | apply Kd.R_drewN | apply Kd.R_drew)); exact HO4010.out) (Kd.R_base ho0) hb); have n2_ := Aside0.mk (Kd.R_lower (Kd.R_new' (Kd.R_new' ho0 (Kd.R_lt (by (with_reducible repeat (first | apply Kd.R_alloc | apply Kd.R_drewN | apply Kd.R_drew)); exact HO4006.out))) (Kd.R_lt (by (with_reducible repeat (first | apply Kd.R_alloc | apply Kd.R_drewN | apply Kd.R_drew)); exact HO4010.out))) (below_size (by repeat (first | (with_reducible first | exact HB.out | apply below_alloc | apply pw_below_drewN | apply below_drew1) | exact HB.out)))); have n3_ := Aside0.mk (below_step (by repeat (first | (with_reducible first | exact HB.out | apply below_alloc | apply pw_below_drewN | apply below_drew1) | exact HB.out)) hb); clear HO4006; clear HO4010; clear HB; have HO4006 := n0_; have HO4010 := n1_; have HO4013 := n2_; have HB := n3_; clear n0_ n1_ n2_ n3_; (try clear hb); (try clear hb2); (try clear hk); (try clear hi); (try clear ho0); obtain ⟨Ao21, co21, eo21⟩ := Kd.R_slice HO4010.out; subst eo21; obtain ⟨Ao22, co22, eo22⟩ := Kd.R_slice HO4013.out; subst eo22) | (go_at_call 14; (with_reducible refine (tinderref08_Same.calls k _ _ t4008 _ _ t4011 t4014 _ ?side1 ?side2 ?side3 ?side4 A12.out).mono ?_); (case side1 => repeat (first | exact (Kd.R_reads' HO4010.out).2.2 | (with_reducible refine Kd.C_alloc ?_ _) | (with_reducible refine Kd.C_drewN ?_ _) | (with_reducible refine Kd.C_drew ?_))); (case side2 => exact (Kd.R_reads' HO4010.out).2.1); (case side3 => repeat (first | exact (Kd.R_reads' HO4013.out).2.2 | (with_reducible refine Kd.C_alloc ?_ _) | (with_reducible refine Kd.C_drewN ?_ _) | (with_reducible refine Kd.C_drew ?_))); (case side4 => exact (Kd.R_reads' HO4013.out).2.1); rintro e w23 ⟨rfl, hb⟩; have n0_ := Aside0.mk (Kd.R_below (by (with_reducible repeat (first | apply Kd.R_alloc | apply Kd.R_drewN | apply Kd.R_drew)); exact HO4006.out) hb); have n1_ := Aside0.mk (Kd.R_below (by (with_reducible repeat (first | apply Kd.R_alloc | apply Kd.R_drewN | apply Kd.R_drew)); exact HO4010.out) hb); have n2_ := Aside0.mk (Kd.R_below (by (with_reducible repeat (first | apply Kd.R_alloc | apply Kd.R_drewN | apply Kd.R_drew)); exact HO4013.out) hb); have n3_ := Aside0.mk (below_step (by repeat (first | (with_reducible first | exact HB.out | apply below_alloc | apply pw_below_drewN | apply below_drew1) | exact HB.out)) hb); clear HO4006; clear HO4010; clear HO4013; clear HB; have HO4006 := n0_; have HO4010 := n1_; have HO4013 := n2_; have HB := n3_; clear n0_ n1_ n2_ n3_; (try clear hb); (try clear hb2); (try clear hk); (try clear hi)))
        go_ret
        exact ⟨by first | rfl | (simp [errW_none, errW_some] <;> rfl) | (simp [*, errW_none, errW_some] <;> rfl), by repeat (first | (with_reducible first | exact HB.out | apply below_alloc | apply pw_below_drewN | apply below_drew1) | exact HB.out)⟩
      · replace c9 := Bool.eq_false_iff.mpr c9
        subst c9
        have H1 : (some false) = some r := by rw [if_neg (show ¬ (false = true) by decide)] at H; exact H
        clear H
        have H := H1
        clear H1
        obtain rfl := Option.some.inj H
        go_enter Tryd.func3, Tryd.ntmps3
        go_wp2_with (first | ((with_reducible refine gate_callee (f := 11) rfl ?_); refine goesL_ (some 3) rfl rfl Tryd.func11 (by kernel_rfl) rfl #[] rfl (by (try simp only [List.map_toArray, List.map_cons, List.map_nil]); first | done | rfl | (simp only [List.length_drop, List.length_take]; rfl)) ?_; (with_reducible refine (tinderlaw08_alive.calls  true _ (QB.Tabs.below ht (by repeat (first | (with_reducible first | exact HB.out | apply below_alloc | apply pw_below_drewN | apply below_drew1 | refine below_set ?_ (Aside0.out (by assumption))) | exact HB.out))) A2.out).mono ?_); rintro e w24 ⟨rfl, hb⟩; refine ⟨_, rfl, ?_⟩; have n0_ := Aside0.mk (below_step (by repeat (first | (with_reducible first | exact HB.out | apply below_alloc | apply pw_below_drewN | apply below_drew1) | exact HB.out)) hb); clear HB; have HB := n0_; clear n0_; (try clear hb); (try clear hb2); (try clear hk); (try clear hi)) | (go_at_call 12; (with_reducible refine (tree_Formed.calls _ _ l0 t4002 _ ?side1 ?side2 A4.out).mono ?_); (case side1 => repeat (first | exact (Kd.C_below HR0.out HB.out) | (with_reducible refine Kd.C_alloc ?_ _) | (with_reducible refine Kd.C_drewN ?_ _) | (with_reducible refine Kd.C_drew ?_))); (case side2 => exact HC0.out); rintro e w25 ⟨rfl, hb⟩; have n0_ := Aside0.mk (below_step (by repeat (first | (with_reducible first | exact HB.out | apply below_alloc | apply pw_below_drewN | apply below_drew1) | exact HB.out)) hb); clear HB; have HB := n0_; clear n0_; (try clear hb); (try clear hb2); (try clear hk); (try clear hi)) | (go_at_call 13; (with_reducible refine (tinderref08_Formed.calls k _ _ l0 t4003 _ ?side1 ?side2 A5.out).mono ?_); (case side1 => repeat (first | exact (Kd.C_below HR0.out HB.out) | (with_reducible refine Kd.C_alloc ?_ _) | (with_reducible refine Kd.C_drewN ?_ _) | (with_reducible refine Kd.C_drew ?_))); (case side2 => exact HC0.out); rintro e w26 ⟨rfl, hb⟩; have n0_ := Aside0.mk (below_step (by repeat (first | (with_reducible first | exact HB.out | apply below_alloc | apply pw_below_drewN | apply below_drew1) | exact HB.out)) hb); clear HB; have HB := n0_; clear n0_; (try clear hb); (try clear hb2); (try clear hk); (try clear hi)) | (go_at_call 15; (with_reducible refine (tree_Copy.calls _ _ l0 t4004 _ ?side1 ?side2 A7.out).mono ?_); (case side1 => repeat (first | exact (Kd.C_below HR0.out HB.out) | (with_reducible refine Kd.C_alloc ?_ _) | (with_reducible refine Kd.C_drewN ?_ _) | (with_reducible refine Kd.C_drew ?_))); (case side2 => exact HC0.out); rintro e w27 ⟨v4005, rfl, ho0, hb⟩; replace ho0 := Kd.S_R ho0; have n0_ := Aside0.mk (Kd.R_lower ho0 (below_size (by repeat (first | (with_reducible first | exact HB.out | apply below_alloc | apply pw_below_drewN | apply below_drew1) | exact HB.out)))); have n1_ := Aside0.mk (below_step (by repeat (first | (with_reducible first | exact HB.out | apply below_alloc | apply pw_below_drewN | apply below_drew1) | exact HB.out)) hb); clear HB; have HO4006 := n0_; have HB := n1_; clear n0_ n1_; (try clear hb); (try clear hb2); (try clear hk); (try clear hi); (try clear ho0); obtain ⟨Ao28, co28, eo28⟩ := Kd.R_slice HO4006.out; subst eo28) | (go_at_call 14; (with_reducible refine (tinderref08_Same.calls k _ _ t4004 _ _ l0 false _ ?side1 ?side2 ?side3 ?side4 A8.out).mono ?_); (case side1 => repeat (first | exact (Kd.R_reads' HO4006.out).2.2 | (with_reducible refine Kd.C_alloc ?_ _) | (with_reducible refine Kd.C_drewN ?_ _) | (with_reducible refine Kd.C_drew ?_))); (case side2 => exact (Kd.R_reads' HO4006.out).2.1); (case side3 => repeat (first | exact (Kd.C_below HR0.out HB.out) | (with_reducible refine Kd.C_alloc ?_ _) | (with_reducible refine Kd.C_drewN ?_ _) | (with_reducible refine Kd.C_drew ?_))); (case side4 => exact HC0.out); rintro e w29 ⟨rfl, hb⟩; have n0_ := Aside0.mk (Kd.R_below (by (with_reducible repeat (first | apply Kd.R_alloc | apply Kd.R_drewN | apply Kd.R_drew)); exact HO4006.out) hb); have n1_ := Aside0.mk (below_step (by repeat (first | (with_reducible first | exact HB.out | apply below_alloc | apply pw_below_drewN | apply below_drew1) | exact HB.out)) hb); clear HO4006; clear HB; have HO4006 := n0_; have HB := n1_; clear n0_ n1_; (try clear hb); (try clear hb2); (try clear hk); (try clear hi)))
        go_ret
        exact ⟨by first | rfl | (simp [errW_none, errW_some] <;> rfl) | (simp [*, errW_none, errW_some] <;> rfl), by repeat (first | (with_reducible first | exact HB.out | apply below_alloc | apply pw_below_drewN | apply below_drew1) | exact HB.out)⟩
    · rw [if_neg c6] at H
      have c6b0 : (t4002 == t4003) = false := by simpa using c6
      (try (have c6b1 : decide (t4002 = t4003) = false := by simpa using c6))
      (try (have c6b2 : (t4002 == t4003) = false := by simpa using c6))
      (try (have c6b3 : ¬ (t4002 = t4003) := by simpa using c6))
      clear c6
      obtain rfl := Option.some.inj H
      go_enter Tryd.func3, Tryd.ntmps3
      go_wp2_with (first | ((with_reducible refine gate_callee (f := 11) rfl ?_); refine goesL_ (some 3) rfl rfl Tryd.func11 (by kernel_rfl) rfl #[] rfl (by (try simp only [List.map_toArray, List.map_cons, List.map_nil]); first | done | rfl | (simp only [List.length_drop, List.length_take]; rfl)) ?_; (with_reducible refine (tinderlaw08_alive.calls  true _ (QB.Tabs.below ht (by repeat (first | (with_reducible first | exact HB.out | apply below_alloc | apply pw_below_drewN | apply below_drew1 | refine below_set ?_ (Aside0.out (by assumption))) | exact HB.out))) A2.out).mono ?_); rintro e w30 ⟨rfl, hb⟩; refine ⟨_, rfl, ?_⟩; have n0_ := Aside0.mk (below_step (by repeat (first | (with_reducible first | exact HB.out | apply below_alloc | apply pw_below_drewN | apply below_drew1) | exact HB.out)) hb); clear HB; have HB := n0_; clear n0_; (try clear hb); (try clear hb2); (try clear hk); (try clear hi)) | (go_at_call 12; (with_reducible refine (tree_Formed.calls _ _ l0 t4002 _ ?side1 ?side2 A4.out).mono ?_); (case side1 => repeat (first | exact (Kd.C_below HR0.out HB.out) | (with_reducible refine Kd.C_alloc ?_ _) | (with_reducible refine Kd.C_drewN ?_ _) | (with_reducible refine Kd.C_drew ?_))); (case side2 => exact HC0.out); rintro e w31 ⟨rfl, hb⟩; have n0_ := Aside0.mk (below_step (by repeat (first | (with_reducible first | exact HB.out | apply below_alloc | apply pw_below_drewN | apply below_drew1) | exact HB.out)) hb); clear HB; have HB := n0_; clear n0_; (try clear hb); (try clear hb2); (try clear hk); (try clear hi)) | (go_at_call 13; (with_reducible refine (tinderref08_Formed.calls k _ _ l0 t4003 _ ?side1 ?side2 A5.out).mono ?_); (case side1 => repeat (first | exact (Kd.C_below HR0.out HB.out) | (with_reducible refine Kd.C_alloc ?_ _) | (with_reducible refine Kd.C_drewN ?_ _) | (with_reducible refine Kd.C_drew ?_))); (case side2 => exact HC0.out); rintro e w32 ⟨rfl, hb⟩; have n0_ := Aside0.mk (below_step (by repeat (first | (with_reducible first | exact HB.out | apply below_alloc | apply pw_below_drewN | apply below_drew1) | exact HB.out)) hb); clear HB; have HB := n0_; clear n0_; (try clear hb); (try clear hb2); (try clear hk); (try clear hi)))
      go_ret
      exact ⟨by first | rfl | (simp [errW_none, errW_some] <;> rfl) | (simp [*, errW_none, errW_some] <;> rfl), by repeat (first | (with_reducible first | exact HB.out | apply below_alloc | apply pw_below_drewN | apply below_drew1) | exact HB.out)⟩
  · replace c3 := Bool.eq_false_iff.mpr c3
    subst c3
    have H1 : (some false) = some r := by rw [if_neg (show ¬ (false = true) by decide)] at H; exact H
    clear H
    have H := H1
    clear H1
    obtain rfl := Option.some.inj H
    go_enter Tryd.func3, Tryd.ntmps3
    go_wp2_with (first | ((with_reducible refine gate_callee (f := 11) rfl ?_); refine goesL_ (some 3) rfl rfl Tryd.func11 (by kernel_rfl) rfl #[] rfl (by (try simp only [List.map_toArray, List.map_cons, List.map_nil]); first | done | rfl | (simp only [List.length_drop, List.length_take]; rfl)) ?_; (with_reducible refine (tinderlaw08_alive.calls  false _ (QB.Tabs.below ht (by repeat (first | (with_reducible first | exact HB.out | apply below_alloc | apply pw_below_drewN | apply below_drew1 | refine below_set ?_ (Aside0.out (by assumption))) | exact HB.out))) A2.out).mono ?_); rintro e w33 ⟨rfl, hb⟩; refine ⟨_, rfl, ?_⟩; have n0_ := Aside0.mk (below_step (by repeat (first | (with_reducible first | exact HB.out | apply below_alloc | apply pw_below_drewN | apply below_drew1) | exact HB.out)) hb); clear HB; have HB := n0_; clear n0_; (try clear hb); (try clear hb2); (try clear hk); (try clear hi)))
    go_ret
    exact ⟨by first | rfl | (simp [errW_none, errW_some] <;> rfl) | (simp [*, errW_none, errW_some] <;> rfl), by repeat (first | (with_reducible first | exact HB.out | apply below_alloc | apply pw_below_drewN | apply below_drew1) | exact HB.out)⟩

end Go.Proofs.YtnalcjgefbelnaaDoor.Q
end
section
set_option linter.unusedSimpArgs false
set_option linter.unusedVariables false
namespace Go.Proofs.YtnalcjgefbelnaaDoor.Q
open Go.RowKit Go.Proofs.YtnalcjgefbelnaaDoorW.PrintWords Go.Proofs.YtnalcjgefbelnaaDoorW.PrintLast
theorem treeForms_row {w : World} (ht : QB.Tabs w) (A : Option Addr) (c : Nat) (z : List S44) (hC : Kd.C k44 w A z.length z) (hc : z.length ≤ c) (hg : TreeG z) :
    Calls Tryd.prog 3 #[.slice A z.length c] w fun e w' => e = .returned (.bool true) ∧ Below w.heap.size w w' := by
  have hG := good_of hg
  refine tinderlaw08_TreeForms.calls 1000000000000000000000000000000 A c z true w ht hC hc ?_
  unfold tinderlaw08_TreeForms.f
  rw [alive08_f, Option.bind_some, if_pos rfl, show tree_Formed.f z = some (treeF z) from rfl, Option.bind_some, refFormed_good hG _ (Nat.le_refl _), Option.bind_some, if_pos (beq_self_eq_true _), show tree_Copy.f z = some z from by unfold tree_Copy.f; rw [if_pos (short_of hG)], Option.bind_some, same8_good hG _ (Nat.le_refl _), Option.bind_some, if_pos rfl]
  rw [show tree_New.f = some [(⟨⟨#[]⟩, [], -1, [], []⟩ : S44)] from rfl, Option.bind_some, show tinderref08_New.f = some [(⟨⟨#[]⟩, [], -1, [], []⟩ : S44)] from rfl, Option.bind_some, same8_good (t := [(⟨⟨#[]⟩, [], -1, [], []⟩ : S44)]) ⟨by decide, fun x hx => by
    rw [List.mem_singleton] at hx
    subst hx
    exact ⟨by show (0 : Nat) < _; decide, by show (0 : Nat) < _; decide, by show (0 : Nat) < _; decide, fun p hp => absurd hp List.not_mem_nil⟩⟩ _ (Nat.le_refl _)]
  rfl
end Go.Proofs.YtnalcjgefbelnaaDoor.Q
end
section
namespace Go.Proofs.YtnalcjgefbelnaaDoor.Q
open Go.RowKit Go.Proofs.YtnalcjgefbelnaaDoorW.PrintWords Go.Proofs.YtnalcjgefbelnaaDoorW.PrintLast Go.Proofs.YtnalcjgefbelnaaDoorW.PrintMore
def Opens {α : Type} (P : Program) (t : TypeId) (d : Kd α) (G : α → Prop) : Prop :=
  ∀ (H : Type) (enc : TypeId × Value → H) (W : World) (fuel : Nat) (cs : List Value) (x : DataW H × List MemPlace), DataW.trod enc P W 0 (fun _ => true) true fuel t cs = some x → (∀ n ∈ x.1.weights P t, n ≤ reachBytes) → ∃ a, d.K W a cs ∧ G a
section
variable {P : Program} {t e : TypeId}
theorem opens_int {k : IntKind} (ht : P.underlying t = some (.int k)) : Opens P t (Kd.int k) (fun n => (Lit.int k n).wf = true) := by
  intro H enc W fuel cs x h _
  obtain ⟨n, rfl, _, hw⟩ := DataW.trod_int ht h
  exact ⟨n, rfl, hw⟩
theorem opens_string (ht : P.underlying t = some .string) : Opens P t Kd.string (fun s => s.size ≤ 140737488351232) := by
  intro H enc W fuel cs x h hw
  obtain ⟨s, rfl, rfl, _⟩ := DataW.trod_string ht h
  have := hw s.data.toList.length (by simp [DataW.weights])
  exact ⟨s, rfl, by simpa [reachBytes] using this⟩
theorem weights_all {H : Type} {P : Program} {e : TypeId} : ∀ {l : List (DataW H)} {d : DataW H}, d ∈ l → ∀ n ∈ d.weights P e, n ∈ DataW.weightsAll P e l
  | d0 :: l, d, hd, n, hn => by
    simp only [DataW.weightsAll, List.mem_append]
    rcases List.mem_cons.1 hd with rfl | hd
    · exact .inl hn
    · exact .inr (weights_all hd n hn)
theorem cells_get {W : World} {base : Nat} {a : Addr} {n : Nat} {c : List Value} (h : W.cells? base a n = some c) : c.length = n ∧ ∀ i u, c[i]? = some u → W.cell? (a.add i) = some u := by
  unfold World.cells? at h
  split at h
  · have hl := mapM_some_length h
    refine ⟨by simpa using hl, fun i u hu => ?_⟩
    have hi : i < n := by
      have := (List.getElem?_eq_some_iff.1 hu).1
      simp at hl
      omega
    have := mapM_some_get h i i (by simp [hi])
    rw [this, hu]
  · cases h
theorem opens_slice {α : Type} {d : Kd α} {G : α → Prop} (ht : P.underlying t = some (.slice e)) (hc : P.cellsOf e = d.sz) (b : Nat) (hb : P.bytesOf e = b) (he : Opens P e d G) :
    Opens P t (Kd.slice e d) (fun xs => xs.length * b ≤ 140737488351232 ∧ ∀ a ∈ xs, G a) := by
  intro H enc W fuel cs x h hw
  rcases DataW.trod_slice ht h with ⟨rfl, _⟩ | ⟨a, len, cap, elems, rest, n, _, rfl, rfl, _, hl, hm, hlen, hel, _⟩
  · exact ⟨[], ⟨none, 0, rfl, Nat.le_refl _, Kd.C_nil d W⟩, by simp, fun a h => by cases h⟩
  · have hwt : (elems.length + rest.length) * b ≤ 140737488351232 := by
      have := hw ((elems.length + rest.length) * P.bytesOf e) (by simp [DataW.weights, ht])
      rw [hb] at this
      simpa [reachBytes] using this
    have hall : ∀ i : Fin len, ∃ p : α, ∃ c, c.length = d.sz ∧ d.K W p c ∧ G p ∧ ∀ j u, c[j]? = some u → W.cell? (a.add (i.1 * d.sz + j)) = some u := by
      intro i
      have hi : i.1 < elems.length := by have := i.2; omega
      have h1 := hel i.1 i.2
      rw [List.getElem?_eq_getElem hi] at h1
      obtain ⟨c, hcs, htr⟩ := Option.bind_eq_some_iff.1 h1
      obtain ⟨hcl, hcg⟩ := cells_get hcs
      obtain ⟨p, hK, hG⟩ := he H enc W n c _ htr (fun m hm => hw m (by
        simp only [DataW.weights, ht, List.mem_cons, List.mem_append]
        exact .inr (.inl (weights_all (List.mem_map.2 ⟨_, List.getElem_mem hi, rfl⟩) m hm))))
      refine ⟨p, c, by rw [hcl, hc], hK, hG, fun j u hu => ?_⟩
      have := hcg j u hu
      rw [add_add, hc] at this
      exact this
    refine ⟨List.ofFn fun i => Classical.choose (hall i), ⟨some a, cap, by simp, by simpa using hl, by simp, by simp only [maxLen] at hm; simp; omega, fun _ => ⟨a, rfl, fun j p hj => ?_⟩⟩, ?_, ?_⟩
    · obtain ⟨hjl, hjp⟩ := List.getElem?_eq_some_iff.1 hj
      simp only [List.length_ofFn] at hjl
      have h2 := Classical.choose_spec (hall ⟨j, hjl⟩)
      rw [List.getElem_ofFn] at hjp
      rw [hjp] at h2
      obtain ⟨c, h3, h4, _, h6⟩ := h2
      exact ⟨c, h3, h4, h6⟩
    · rw [List.length_ofFn]
      refine Nat.le_trans (Nat.mul_le_mul_right b ?_) hwt
      omega
    · intro p hp
      obtain ⟨i, rfl⟩ := (List.mem_ofFn).1 hp
      obtain ⟨_, _, _, h5, _⟩ := Classical.choose_spec (hall i)
      exact h5
/-- The fields of a struct from one on, one behind the other. -/
def OpensFields {α : Type} (P : Program) (fs : List Field) (off : Nat) (d : Kd α) (G : α → Prop) : Prop :=
  ∀ (H : Type) (enc : TypeId × Value → H) (W : World) (fuel : Nat) (cs : List Value) (xs : List (DataW H × List MemPlace)), off + d.sz = cs.length → xs.length = fs.length →
    (∀ (i : Nat) (f : Field), fs[i]? = some f → DataW.trod enc P W 0 (fun _ => true) true fuel f.type ((cs.drop f.offset).take (P.cellsOf f.type)) = xs[i]?) →
    (∀ n ∈ DataW.weightsEach P (fs.map (·.type)) (xs.map (·.1)), n ≤ reachBytes) → ∃ a, d.K W a (cs.drop off) ∧ G a
theorem opens_one {α : Type} {d : Kd α} {G : α → Prop} {f : Field} {off : Nat} (ho : f.offset = off) (hc : P.cellsOf f.type = d.sz) (he : Opens P f.type d G) : OpensFields P [f] off d G := by
  intro H enc W fuel cs xs hl hx hf hw
  match xs, hx with
  | [x], _ =>
    have h0 := hf 0 f rfl
    rw [ho, hc, List.take_of_length_le (by rw [List.length_drop]; omega)] at h0
    exact he H enc W fuel _ x h0 (fun n hn => hw n (by simpa [DataW.weightsEach] using hn))
theorem opens_more {α β : Type} {d : Kd α} {d2 : Kd β} {G : α → Prop} {G2 : β → Prop} {f : Field} {fs : List Field} {off : Nat} (ho : f.offset = off) (hc : P.cellsOf f.type = d.sz) (he : Opens P f.type d G) (hs : OpensFields P fs (off + d.sz) d2 G2) :
    OpensFields P (f :: fs) off (Kd.pair d d2) (fun p => G p.1 ∧ G2 p.2) := by
  intro H enc W fuel cs xs hl hx hf hw
  have hl' : off + (d.sz + d2.sz) = cs.length := hl
  match xs, hx with
  | x :: xs, hx =>
    have h0 := hf 0 f rfl
    rw [ho, hc] at h0
    obtain ⟨a, h1, h2⟩ := he H enc W fuel _ x h0 (fun n hn => hw n (by simp only [List.map_cons, DataW.weightsEach, List.mem_append]; exact .inl hn))
    obtain ⟨b, h3, h4⟩ := hs H enc W fuel cs xs (by omega) (by simpa using hx) (fun i g hg => by simpa using hf (i + 1) g (by simpa using hg)) (fun n hn => hw n (by simp only [List.map_cons, DataW.weightsEach, List.mem_append]; exact .inr hn))
    refine ⟨(a, b), ⟨_, _, ?_, h1, h3⟩, h2, h4⟩
    rw [← List.drop_drop, List.take_append_drop]
theorem opens_struct {α : Type} {d : Kd α} {G : α → Prop} {fs : Array Field} (ht : P.underlying t = some (.struct fs)) (hc : P.cellsOf t = d.sz) (hf : OpensFields P fs.toList 0 d G) : Opens P t d G := by
  intro H enc W fuel cs x h hw
  obtain ⟨xs, n, _, rfl, hl, hlen, hg⟩ := DataW.trod_struct ht h
  have := hf H enc W n cs xs (by omega) (by simpa using hlen) (fun i f hi => hg i f (by simpa using hi)) (fun m hm => hw m (by simpa [DataW.weights, ht] using hm))
  simpa using this
theorem opens_iso {α β : Type} {d : Kd α} {G : α → Prop} (f : β → α) (g : α → β) (hfg : ∀ a, f (g a) = a) (h : Opens P t d G) : Opens P t (Kd.iso d f) (fun b => G (f b)) := by
  intro H enc W fuel cs x hx hw
  obtain ⟨a, h1, h2⟩ := h H enc W fuel cs x hx hw
  exact ⟨g a, by show d.K W (f (g a)) cs; rw [hfg]; exact h1, by show G (f (g a)); rw [hfg]; exact h2⟩
theorem weights_each {H : Type} {P : Program} {ts : List TypeId} {ds : List (DataW H)} (h : (DataW.weightsEach P ts ds).all (· ≤ reachBytes) = true) {j : Nat} {t : TypeId} {d : DataW H} (ht : ts[j]? = some t) (hd : ds[j]? = some d) : ∀ n ∈ d.weights P t, n ≤ reachBytes := fun n hn => by
  simpa using List.all_eq_true.1 h _ (DataW.weights_mem_each ht hd n hn)
end
end Go.Proofs.YtnalcjgefbelnaaDoor.Q
end
