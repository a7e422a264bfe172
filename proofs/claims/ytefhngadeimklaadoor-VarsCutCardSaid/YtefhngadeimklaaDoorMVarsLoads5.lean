/- Contracts of Go functions and plain facts, of several texts, one behind the other; no condition. -/
import Derived.Test.YtefhngadeimklaaDoorMVarsLoads4
import Derived.Test.YtefhngadeimklaaDoorMVarsLoads2
import Derived.Test.YtefhngadeimklaaDoorMVarsLoads3
import Derived.Laws.Bits64
import Derived.Deep.MidRow
import Derived.Laws.Cover3
import Derived.Laws.ResultCell
section
namespace Go.Proofs.YtefhngadeimklaaDoor.Q
open Go.RowKit Go.Proofs.YtefhngadeimklaaDoorW.PrintWords Go.Proofs.YtefhngadeimklaaDoorW.PrintLast Go.Proofs.YtefhngadeimklaaDoorW.PrintMore
attribute [local go_sem] max2_int min2_int max_two min_two max_three min_three max_four min_four
set_option linter.unusedVariables false
set_option linter.unusedSimpArgs false
def encX (x : S40) : List Int := bytesOf x.f0 ++ [61] ++ bytesOf x.f1 ++ [0]
def encF (l : List S40) : List Int := (l.map encX).flatten
def vars_Encode.f (k : Nat) (l0 : List S40) : Option (List Int × Int) := (vars_Right.f k l0).bind fun t => if t = true then (if (encF l0).length ≤ 1000000 then (if 248 < (encF l0).length then some (([] : List Int), 10) else some (encF l0, 0)) else none) else some (([] : List Int), 1)
theorem encF_take (l : List S40) (i : Nat) (h : i < l.length) : encF (l.take (i + 1)) = encF (l.take i) ++ encX (rd_T40 l i) := by
  rw [encF, encF, List.take_succ_eq_append_getElem h, List.map_append, List.flatten_append]
  simp [rd_T40, List.getD_eq_getElem?_getD, List.getElem?_eq_getElem h]
theorem encF_take_le (l : List S40) (i : Nat) : (encF (l.take i)).length ≤ (encF l).length := by
  rw [show encF l = encF (l.take i) ++ encF (l.drop i) from by rw [encF, encF, encF, ← List.flatten_append, ← List.map_append, List.take_append_drop], List.length_append]
  omega
theorem encX_length (x : S40) : (encX x).length = x.f0.size + x.f1.size + 2 := by
  unfold encX
  simp only [List.length_append, bytesOf_length, List.length_singleton]
  omega
theorem St_alloc2 {w0 W : World} {v : Value} {xs : List Int} {bs : List (Nat × Obj)} (h : St w0 W v xs bs) (o o2 : Obj) : St w0 ((W.alloc o).alloc o2) v xs ((W.heap.size + 1, o2) :: (W.heap.size, o) :: bs) := by
  have h2 := St_alloc (St_alloc h o) o2
  rw [show (W.alloc o).heap.size = W.heap.size + 1 from by unfold World.alloc; simp] at h2
  exact h2
set_option maxHeartbeats 16000000 in
set_option maxRecDepth 100000 in
theorem vars_Encode.calls (k : Nat) (A0 : Option Addr) (c0 : Nat) (l0 : List S40) (r1 : List Int) (r2 : Int) (w : World) (ht : Tabs w) (hr0 : Kd.C k40 w A0 l0.length l0) (hc0 : l0.length ≤ c0) (h : vars_Encode.f k l0 = some (r1, r2)) :
    Calls Tryd.prog 26 #[.slice A0 l0.length c0] w fun e w' => ∃ v0_ : Value, e = .returned (.tuple #[v0_, .int .i64 r2]) ∧ Kd.R (Kd.int .u8) 5 w' w.heap.size (fun _ => True) v0_ r1 ∧ Below w.heap.size w w' := by
  have hu40 := Tryd.underlying40
  unfold vars_Encode.f at h
  obtain ⟨t, A1, H⟩ := Option.bind_eq_some_iff.mp h
  clear h
  have HRI := Aside0.mk (vars_Right.calls k A0 c0 l0 t w ht hr0 hc0 A1)
  have HC := Aside0.mk hr0
  cases t with
  | false =>
    rw [if_neg (by decide)] at H
    simp only [Option.some.injEq, Prod.mk.injEq] at H
    obtain ⟨rfl, rfl⟩ := H
    clear hr0 hc0 ht A1
    go_enter Tryd.func26, Tryd.ntmps26
    go_wp2_with (first
      | (go_at_call 16; refine HRI.out.mono ?_; rintro e w1 ⟨rfl, hb⟩; have HB := Aside0.mk hb; clear hb))
    go_ret2
    exact ⟨_, rfl, Kd.R_nil _ _ _ _ _, HB.out⟩
  | true =>
    rw [if_pos rfl] at H
    by_cases hl : (encF l0).length ≤ 1000000
    · rw [if_pos hl] at H
      have HL := Aside0.mk hl
      have HM := Aside0.mk (Kd.C_max hr0)
      have HH := Aside0.mk H
      clear hr0 hc0 ht A1 hl H
      go_enter Tryd.func26, Tryd.ntmps26
      go_wp2_with (first
        | (go_at_call 16; refine HRI.out.mono ?_; rintro e w1 ⟨rfl, hb⟩; have HB := Aside0.mk hb; clear hb))
      clear HRI
      go_loopg [4, 12] l0.length (fun kq v4 v12 w' => ∃ i : Int, v12 = .int .i64 i ∧ Aside0 (0 ≤ i ∧ i + kq = l0.length) ∧ Aside0 (Kd.R (Kd.int .u8) 5 w' w.heap.size (fun _ => True) v4 (encF (l0.take i.toNat))) ∧ Aside0 (Below w.heap.size w w'))
      case atStart => exact ⟨0, rfl, ⟨by omega, by omega⟩, ⟨Kd.R_nil _ _ _ _ _⟩, HB⟩
      case round =>
        clear HB
        obtain ⟨i, rfl, HI, HR, HB⟩ := hrel
        cases gk with
        | zero =>
          have hlt : decide (i < (l0.length : Int)) = false := decide_eq_false (by have := HI.out; omega)
          have hr := HR.out
          rw [List.take_of_length_le (by have := HI.out; omega)] at hr
          obtain ⟨A, c, rfl, hcl, hC⟩ := Kd.R_reads hr
          have HRR := Aside0.mk hr
          clear hr hC hcl HR
          have hh := HH.out
          by_cases h248 : 248 < (encF l0).length
          · rw [if_pos h248] at hh
            simp only [Option.some.injEq, Prod.mk.injEq] at hh
            obtain ⟨rfl, rfl⟩ := hh
            obtain ⟨m, hm⟩ : ∃ m, m = (encF l0).length := ⟨_, rfl⟩
            rw [← hm] at h248
            have d1 : decide ((m : Int) > 248) = true := decide_eq_true (by omega)
            have d2 : decide (248 < (m : Int)) = true := decide_eq_true (by omega)
            simp only [← hm]
            clear h248 HI HL HM hm
            go_wp2
            go_ret2
            exact ⟨_, rfl, Kd.R_nil _ _ _ _ _, HB.out⟩
          · rw [if_neg h248] at hh
            simp only [Option.some.injEq, Prod.mk.injEq] at hh
            obtain ⟨rfl, rfl⟩ := hh
            obtain ⟨m, hm⟩ : ∃ m, m = (encF l0).length := ⟨_, rfl⟩
            rw [← hm] at h248
            have d1 : decide ((m : Int) > 248) = false := decide_eq_false (by omega)
            have d2 : decide (248 < (m : Int)) = false := decide_eq_false (by omega)
            have HRR := Aside0.mk (show Kd.R (Kd.int .u8) 5 _ w.heap.size (fun _ => True) (.slice A m c) (encF l0) from by rw [hm]; exact HRR.out)
            simp only [← hm]
            clear h248 HI HL HM hm
            go_wp2
            go_ret2
            exact ⟨_, rfl, HRR.out, HB.out⟩
        | succ k1 =>
          have hi := HI.out
          have hm := HM.out
          have hlt : decide (i < (l0.length : Int)) = true := decide_eq_true (by omega)
          have p1 : (0 ≤ i) = True := eq_true (by omega)
          have p2 : (i < (l0.length : Int)) = True := eq_true (by omega)
          obtain ⟨ad, eA, hx0, hx1⟩ := at_T40 (Kd.C_below HC.out HB.out) i (by omega) (by omega)
          cases eA
          have hwr : IntKind.i64.wrap (i + 1) = i + 1 := (i64_w _).trans (by unfold wrap64; omega)
          have hwr2 : wrap64 (i + 1) = i + 1 := by unfold wrap64; omega
          have htk := encF_take l0 i.toNat (by omega)
          rw [show ((i.toNat : Nat) : Int) = i by omega] at htk
          have hle := encF_take_le l0 (i.toNat + 1)
          rw [htk, List.length_append, encX_length] at hle
          obtain ⟨x, hx⟩ : ∃ x, x = rd_T40 l0 i := ⟨_, rfl⟩
          rw [← hx] at hx0 hx1 htk hle
          obtain ⟨xs, hxs⟩ : ∃ xs, xs = encF (l0.take i.toNat) := ⟨_, rfl⟩
          rw [← hxs] at htk hle HR
          have HLE := Aside0.mk (Nat.le_trans hle HL.out)
          have HTK := Aside0.mk htk
          clear hi hm htk hle hx hxs
          go_wp2
          have HST := Aside0.mk (St_drew (St_alloc (St_start HR.out HB.out) (.cells #[.string x.f0, .string x.f1] 40)))
          revert HST
          generalize wr.alloc (.cells #[.string x.f0, .string x.f1] 40) = W0
          intro HST
          clear HB HR hx0 hx1
          go_region_held3 (fun w' => w'.cell? ⟨wr.heap.size, 0, none⟩ = some (.string x.f0) ∧ w'.cell? ⟨wr.heap.size, 1, none⟩ = some (.string x.f1)) (first | exact held_two HST.out _ _ _ _ (by repeat (first | exact List.mem_cons_self | refine List.mem_cons_of_mem _ ?_)) | exact held_two (St_alloc HST.out _) _ _ _ _ (by repeat (first | exact List.mem_cons_self | refine List.mem_cons_of_mem _ ?_)) | exact held_two (St_alloc2 HST.out _ _) _ _ _ _ (by repeat (first | exact List.mem_cons_self | refine List.mem_cons_of_mem _ ?_))) (first
            | (refine str_step (bs := _) (by rfl) (.tmp 16) (.tmp 18) 42 9 rfl Tryd.underlying42 Tryd.underlying9 info5 x.f0 rfl rfl HST.out (by have := HLE.out; (try simp only [List.length_append, bytesOf_length, List.length_singleton]); omega) ?_; intro v1 w1 hst; have HST := Aside0.mk hst; clear hst)
            | (refine byte_step (bs := _) (by rfl) (.tmp 19) (.tmp 20) 42 rfl Tryd.underlying42 info5 _ 61 rfl rfl HST.out (by repeat (first | exact List.mem_cons_self | refine List.mem_cons_of_mem _ ?_)) (by have := HLE.out; (try simp only [List.length_append, bytesOf_length, List.length_singleton]); omega) ?_; intro v1 w1 hst; have HST := Aside0.mk hst; clear hst)
            | (refine str_step (bs := _) (by rfl) (.tmp 21) (.tmp 23) 42 9 rfl Tryd.underlying42 Tryd.underlying9 info5 x.f1 rfl rfl HST.out (by have := HLE.out; (try simp only [List.length_append, bytesOf_length, List.length_singleton]); omega) ?_; intro v1 w1 hst; have HST := Aside0.mk hst; clear hst)
            | (refine byte_step (bs := _) (by rfl) (.tmp 24) (.tmp 25) 42 rfl Tryd.underlying42 info5 _ 0 rfl rfl HST.out (by repeat (first | exact List.mem_cons_self | refine List.mem_cons_of_mem _ ?_)) (by have := HLE.out; (try simp only [List.length_append, bytesOf_length, List.length_singleton]); omega) ?_; intro v1 w1 hst; have HST := Aside0.mk hst; clear hst)
            | (refine str_step (bs := _) (by rfl) (.tmp 16) (.tmp 18) 42 9 rfl Tryd.underlying42 Tryd.underlying9 info5 x.f0 rfl rfl (St_alloc HST.out _) (by have := HLE.out; (try simp only [List.length_append, bytesOf_length, List.length_singleton]); omega) ?_; intro v1 w1 hst; have HST := Aside0.mk hst; clear hst)
            | (refine byte_step (bs := _) (by rfl) (.tmp 19) (.tmp 20) 42 rfl Tryd.underlying42 info5 _ 61 rfl rfl (St_alloc HST.out _) (by repeat (first | exact List.mem_cons_self | refine List.mem_cons_of_mem _ ?_)) (by have := HLE.out; (try simp only [List.length_append, bytesOf_length, List.length_singleton]); omega) ?_; intro v1 w1 hst; have HST := Aside0.mk hst; clear hst)
            | (refine str_step (bs := _) (by rfl) (.tmp 21) (.tmp 23) 42 9 rfl Tryd.underlying42 Tryd.underlying9 info5 x.f1 rfl rfl (St_alloc HST.out _) (by have := HLE.out; (try simp only [List.length_append, bytesOf_length, List.length_singleton]); omega) ?_; intro v1 w1 hst; have HST := Aside0.mk hst; clear hst)
            | (refine byte_step (bs := _) (by rfl) (.tmp 24) (.tmp 25) 42 rfl Tryd.underlying42 info5 _ 0 rfl rfl (St_alloc HST.out _) (by repeat (first | exact List.mem_cons_self | refine List.mem_cons_of_mem _ ?_)) (by have := HLE.out; (try simp only [List.length_append, bytesOf_length, List.length_singleton]); omega) ?_; intro v1 w1 hst; have HST := Aside0.mk hst; clear hst)
            | (refine str_step (bs := _) (by rfl) (.tmp 16) (.tmp 18) 42 9 rfl Tryd.underlying42 Tryd.underlying9 info5 x.f0 rfl rfl (St_alloc2 HST.out _ _) (by have := HLE.out; (try simp only [List.length_append, bytesOf_length, List.length_singleton]); omega) ?_; intro v1 w1 hst; have HST := Aside0.mk hst; clear hst)
            | (refine byte_step (bs := _) (by rfl) (.tmp 19) (.tmp 20) 42 rfl Tryd.underlying42 info5 _ 61 rfl rfl (St_alloc2 HST.out _ _) (by repeat (first | exact List.mem_cons_self | refine List.mem_cons_of_mem _ ?_)) (by have := HLE.out; (try simp only [List.length_append, bytesOf_length, List.length_singleton]); omega) ?_; intro v1 w1 hst; have HST := Aside0.mk hst; clear hst)
            | (refine str_step (bs := _) (by rfl) (.tmp 21) (.tmp 23) 42 9 rfl Tryd.underlying42 Tryd.underlying9 info5 x.f1 rfl rfl (St_alloc2 HST.out _ _) (by have := HLE.out; (try simp only [List.length_append, bytesOf_length, List.length_singleton]); omega) ?_; intro v1 w1 hst; have HST := Aside0.mk hst; clear hst)
            | (refine byte_step (bs := _) (by rfl) (.tmp 24) (.tmp 25) 42 rfl Tryd.underlying42 info5 _ 0 rfl rfl (St_alloc2 HST.out _ _) (by repeat (first | exact List.mem_cons_self | refine List.mem_cons_of_mem _ ?_)) (by have := HLE.out; (try simp only [List.length_append, bytesOf_length, List.length_singleton]); omega) ?_; intro v1 w1 hst; have HST := Aside0.mk hst; clear hst))
          all_goals (
            have HN := Aside0.mk (show Kd.R (Kd.int .u8) 5 _ w.heap.size (fun _ => True) _ (encF (l0.take (i + 1).toNat)) from by
              have hi := HI.out
              rw [show (i + 1).toNat = i.toNat + 1 by omega, HTK.out, encX, ← List.append_assoc, ← List.append_assoc, ← List.append_assoc]
              exact Kd.R_mono HST.out.row (fun _ _ => trivial))
            have HB := Aside0.mk HST.out.below
            go_wp2
            go_roundg k1
            case measure => omega
            case rel => exact ⟨i + 1, rfl, ⟨by have := HI.out; omega, by have := HI.out; omega⟩, HN, HB⟩)
    · rw [if_neg hl] at H
      cases H
end Go.Proofs.YtefhngadeimklaaDoor.Q
end
section
namespace Go.Proofs.YtefhngadeimklaaDoor.Q
open Go.RowKit Go.Proofs.YtefhngadeimklaaDoorW.PrintWords Go.Proofs.YtefhngadeimklaaDoorW.PrintLast Go.Proofs.YtefhngadeimklaaDoorW.PrintMore
set_option linter.unusedVariables false
set_option linter.unusedSimpArgs false

attribute [local go_sem] max2_int min2_int max_two min_two max_three min_three max_four min_four
/-! ### tinderref19_bytes: function 51 -/
def tinderref19_bytes.l0 : Nat → List (S40) → List Int → Int → Option (List Int)
  | 0, _, _, _ => none
  | k + 1, x0, x3, x4 => if x4 < (x0.length : Int) then (if 0 ≤ x4 then (if x3.length + ((rd_T40 x0 x4).f0).size < 140737488355328 then ((some (x3 ++ bytesOf ((rd_T40 x0 x4).f0) : List Int)).bind fun y52002 => (if y52002.length < 140737488355328 then ((some (y52002 ++ [61] : List Int)).bind fun y52005 => (if y52005.length + ((rd_T40 x0 x4).f1).size < 140737488355328 then ((some (y52005 ++ bytesOf ((rd_T40 x0 x4).f1) : List Int)).bind fun y52009 => (if y52009.length < 140737488355328 then (tinderref19_bytes.l0 k x0 (y52009 ++ [0]) (wrap64 (x4 + 1))) else (none))) else (none))) else (none))) else (none)) else (none)) else (some x3)
def tinderref19_bytes.f (k : Nat) (l0 : List (S40)) : Option (List Int) := tinderref19_bytes.l0 k l0 ([] : List Int) 0
set_option maxHeartbeats 8000000 in
set_option maxRecDepth 100000 in
theorem tinderref19_bytes.calls (k : Nat) (A0 : Option Addr) (c0 : Nat) (l0 : List (S40)) (r : List Int) (w : World) (hr0 : Kd.C k40 w A0 l0.length l0) (hc0 : l0.length ≤ c0) (h : tinderref19_bytes.f k l0 = some r) :
    Calls Tryd.prog 51 #[.slice A0 l0.length c0] w fun e w' => ∃ v0_ : Value, e = .returned (v0_) ∧ Kd.R (Kd.int .u8) 5 w' w.heap.size (fun _ => True) v0_ r ∧ Below w.heap.size w w' := by
  have HR0 := Aside0.mk hr0
  have HC0 := Aside0.mk hc0
  clear hr0 hc0
  have HB := Aside0.mk (Below.refl w.heap.size w)
  have H : (tinderref19_bytes.l0 k l0 ([] : List Int) 0) = some r := h
  clear h
  have H' := Aside0.mk H
  clear H
  go_enter Tryd.func51, Tryd.ntmps51
  go_wp2
  go_loopg [3, 4] k (fun kq v3 v4 w' => ∃ (x3_1 : List Int) (x4_1 : Int), v4 = .int .i64 x4_1 ∧ Aside0 (tinderref19_bytes.l0 kq l0 x3_1 x4_1 = some r) ∧ Aside0 (kq ≤ k) ∧ Aside0 (Kd.R (Kd.int .u8) 5 w' w.heap.size (fun _ => True) v3 x3_1) ∧ Aside0 (Below w.heap.size w w'))
  case atStart => exact ⟨(([] : List Int)), (0), (by first | rfl | (simp; done) | (simp [*]; done)), H', ⟨Nat.le_refl _⟩, ⟨by first | exact Kd.R_nil _ _ _ _ _ | exact Kd.N_nil _ _ _ _ _ | exact Kd.V_nil _ _ _ _ _ | exact Kd.Q_nil _ _ _ _ _ | exact Kd.S_nil _ _ _ _ _⟩, ⟨by repeat (first | (with_reducible first | exact HB.out | apply below_alloc | apply pw_below_drewN | apply below_drew1) | exact HB.out)⟩⟩
  case round =>
    clear H'
    obtain ⟨x3_1, x4_1, rfl, HA, HK1, HO_3, HB⟩ := hrel
    cases gk with
    | zero => exact absurd HA.out (by simp [tinderref19_bytes.l0])
    | succ k1 =>
      have H := HA.out
      clear HA
      simp only [tinderref19_bytes.l0] at H
      by_cases c2 : x4_1 < (l0.length : Int)
      · rw [if_pos c2] at H
        have c2b0 : decide (x4_1 < (l0.length : Int)) = true := decide_eq_true c2
        clear c2
        by_cases c3 : 0 ≤ x4_1
        · rw [if_pos c3] at H
          have c3b0 : decide (0 ≤ x4_1) = true := decide_eq_true c3
          clear c3
          by_cases c4 : x3_1.length + ((rd_T40 l0 x4_1).f0).size < 140737488355328
          · rw [if_pos c4] at H
            have LMc4 := Aside0.mk c4
            clear c4
            obtain ⟨y52002, hy52002⟩ : ∃ y_ : List Int, y_ = (x3_1 ++ bytesOf ((rd_T40 l0 x4_1).f0)) := ⟨_, rfl⟩
            replace H : (if y52002.length < 140737488355328 then ((some (y52002 ++ [61] : List Int)).bind fun y52005 => (if y52005.length + ((rd_T40 l0 x4_1).f1).size < 140737488355328 then ((some (y52005 ++ bytesOf ((rd_T40 l0 x4_1).f1) : List Int)).bind fun y52009 => (if y52009.length < 140737488355328 then (tinderref19_bytes.l0 k1 l0 (y52009 ++ [0]) (wrap64 (x4_1 + 1))) else (none))) else (none))) else (none)) = some r := by first | (rw [hy52002]; with_reducible exact H) | (have H2_ := (Option.bind_some _ _).symm.trans H; rw [hy52002]; with_reducible exact H2_) | (have H2_ := (Option.bind_some _ _).symm.trans H; with_reducible exact H2_) | with_reducible exact H | (rw [hy52002]; exact H) | exact H
            have Ny52002 := Aside0.mk hy52002
            clear hy52002
            by_cases c5 : y52002.length < 140737488355328
            · rw [if_pos c5] at H
              have LMc5 := Aside0.mk c5
              clear c5
              obtain ⟨y52005, hy52005⟩ : ∃ y_ : List Int, y_ = (y52002 ++ [61]) := ⟨_, rfl⟩
              replace H : (if y52005.length + ((rd_T40 l0 x4_1).f1).size < 140737488355328 then ((some (y52005 ++ bytesOf ((rd_T40 l0 x4_1).f1) : List Int)).bind fun y52009 => (if y52009.length < 140737488355328 then (tinderref19_bytes.l0 k1 l0 (y52009 ++ [0]) (wrap64 (x4_1 + 1))) else (none))) else (none)) = some r := by first | (rw [hy52005]; with_reducible exact H) | (have H2_ := (Option.bind_some _ _).symm.trans H; rw [hy52005]; with_reducible exact H2_) | (have H2_ := (Option.bind_some _ _).symm.trans H; with_reducible exact H2_) | with_reducible exact H | (rw [hy52005]; exact H) | exact H
              have Ny52005 := Aside0.mk hy52005
              clear hy52005
              by_cases c6 : y52005.length + ((rd_T40 l0 x4_1).f1).size < 140737488355328
              · rw [if_pos c6] at H
                have LMc6 := Aside0.mk c6
                clear c6
                obtain ⟨y52009, hy52009⟩ : ∃ y_ : List Int, y_ = (y52005 ++ bytesOf ((rd_T40 l0 x4_1).f1)) := ⟨_, rfl⟩
                replace H : (if y52009.length < 140737488355328 then (tinderref19_bytes.l0 k1 l0 (y52009 ++ [0]) (wrap64 (x4_1 + 1))) else (none)) = some r := by first | (rw [hy52009]; with_reducible exact H) | (have H2_ := (Option.bind_some _ _).symm.trans H; rw [hy52009]; with_reducible exact H2_) | (have H2_ := (Option.bind_some _ _).symm.trans H; with_reducible exact H2_) | with_reducible exact H | (rw [hy52009]; exact H) | exact H
                have Ny52009 := Aside0.mk hy52009
                clear hy52009
                by_cases c7 : y52009.length < 140737488355328
                · rw [if_pos c7] at H
                  have LMc7 := Aside0.mk c7
                  clear c7
                  obtain ⟨y52012, hy52012⟩ : ∃ y_ : List Int, y_ = (y52009 ++ [0]) := ⟨_, rfl⟩
                  replace H : (tinderref19_bytes.l0 k1 l0 y52012 (wrap64 (x4_1 + 1))) = some r := by first | (rw [hy52012]; with_reducible exact H) | (have H2_ := (Option.bind_some _ _).symm.trans H; rw [hy52012]; with_reducible exact H2_) | (have H2_ := (Option.bind_some _ _).symm.trans H; with_reducible exact H2_) | with_reducible exact H | (rw [hy52012]; exact H) | exact H
                  have Ny52012 := Aside0.mk hy52012
                  clear hy52012
                  have H' := Aside0.mk H
                  clear H
                  have p52001 : 0 ≤ (x4_1 : Int) := of_decide_eq_true (by first | (with_reducible assumption) | assumption)
                  have q52001 : x4_1 < (l0.length : Int) := of_decide_eq_true (by first | (with_reducible assumption) | assumption)
                  obtain ⟨ad52001, e52001, hx52001_0, hx52001_1⟩ := at_T40 HR0.out x4_1 p52001 q52001
                  cases e52001
                  replace hx52001_0 := (HB.out.cell (World.block_lt_of_cell? w _ hx52001_0)).trans hx52001_0
                  replace hx52001_1 := (HB.out.cell (World.block_lt_of_cell? w _ hx52001_1)).trans hx52001_1
                  replace p52001 := eq_true p52001
                  replace q52001 := eq_true q52001
                  go_wp2_with (first | (at_builtin; refine print_append_str (w0 := w) w.heap.size rfl (.tmp 11) _ 42 9 5 rfl Tryd.underlying42 Tryd.underlying9 info5 u3 x3_1 ((rd_T40 l0 x4_1).f0) rfl rfl ?aO ?aB ?aS ?aL ?_; (case aB => exact (by repeat (first | (with_reducible first | exact HB.out | apply below_alloc | apply pw_below_drewN | apply below_drew1) | exact HB.out))); (case aO => exact (Kd.own_of_R (by (with_reducible repeat (first | apply Kd.R_alloc | apply Kd.R_drewN | apply Kd.R_drew)); exact HO_3.out))); (case aS => exact (below_size (by repeat (first | (with_reducible first | exact HB.out | apply below_alloc | apply pw_below_drewN | apply below_drew1) | exact HB.out)))); (case aL => have := LMc4.out; omega); intro v52003 w8 ho0 hb hg; have ho := Kd.R_of_own (h1 := fun _ => rfl) (ok := fun _ => True) ho0 (fun _ _ => trivial); clear ho0; have hat := True.intro; rw [← Ny52002.out] at ho; change Kd.R (Kd.int .u8) 5 w8 w.heap.size (fun _ => True) v52003 y52002 at ho; have n0_ := Aside0.mk (hb); have n1_ := Aside0.mk (ho); clear HB; clear HO_3; have HB := n0_; have HO52004 := n1_; clear n0_ n1_; clear ho hb hg hat) | ((with_reducible refine gate_builtin (b := .append) (xs := #[.tmp 18, .tmp 19]) rfl ?_); at_builtin; refine Kd.R_append (Kd.int .u8) (w0 := w) w.heap.size rfl (.tmp 18) (.tmp 19) 42 5 (.int .u8 0) 1 rfl Tryd.underlying42 info5 rfl (by decide) (by omega) v52003 y52002 61 [.int .u8 61] (fun _ => True) (fun _ => False) rfl rfl ?aP (fun _ hk => hk.elim) ?aF ?aO ?aB ?aS ?aL ?_; (case aP => exact rfl); (case aB => exact (by repeat (first | (with_reducible first | exact HB.out | apply below_alloc | apply pw_below_drewN | apply below_drew1) | exact HB.out))); (case aF => exact (fun _ _ => trivial)); (case aO => exact (by (with_reducible repeat (first | apply Kd.R_alloc | apply Kd.R_drewN | apply Kd.R_drew)); exact HO52004.out)); (case aS => exact (below_size (by repeat (first | (with_reducible first | exact HB.out | apply below_alloc | apply pw_below_drewN | apply below_drew1) | exact HB.out)))); (case aL => have := LMc5.out; omega); intro v52006 w9 ho hb hg hat; rw [← Ny52005.out] at ho; have n0_ := Aside0.mk (hb); have n1_ := Aside0.mk (ho); clear HB; clear HO52004; have HB := n0_; have HO52007 := n1_; clear n0_ n1_; clear ho hb hg hat; have p52008 : 0 ≤ (x4_1 : Int) := of_decide_eq_true (by first | (with_reducible assumption) | assumption); have q52008 : x4_1 < (l0.length : Int) := of_decide_eq_true (by first | (with_reducible assumption) | assumption); obtain ⟨ad52008, e52008, hx52008_0, hx52008_1⟩ := at_T40 HR0.out x4_1 p52008 q52008; obtain rfl : ad52001 = ad52008 := (by injection e52008); replace hx52008_0 := (HB.out.cell (World.block_lt_of_cell? w _ hx52008_0)).trans hx52008_0; replace hx52008_1 := (HB.out.cell (World.block_lt_of_cell? w _ hx52008_1)).trans hx52008_1; replace p52008 := eq_true p52008; replace q52008 := eq_true q52008) | (at_builtin; refine print_append_str (w0 := w) w.heap.size rfl (.tmp 21) _ 42 9 5 rfl Tryd.underlying42 Tryd.underlying9 info5 v52006 y52005 ((rd_T40 l0 x4_1).f1) rfl rfl ?aO ?aB ?aS ?aL ?_; (case aB => exact (by repeat (first | (with_reducible first | exact HB.out | apply below_alloc | apply pw_below_drewN | apply below_drew1) | exact HB.out))); (case aO => exact (Kd.own_of_R (by (with_reducible repeat (first | apply Kd.R_alloc | apply Kd.R_drewN | apply Kd.R_drew)); exact HO52007.out))); (case aS => exact (below_size (by repeat (first | (with_reducible first | exact HB.out | apply below_alloc | apply pw_below_drewN | apply below_drew1) | exact HB.out)))); (case aL => have := LMc6.out; omega); intro v52010 w10 ho0 hb hg; have ho := Kd.R_of_own (h1 := fun _ => rfl) (ok := fun _ => True) ho0 (fun _ _ => trivial); clear ho0; have hat := True.intro; rw [← Ny52009.out] at ho; change Kd.R (Kd.int .u8) 5 w10 w.heap.size (fun _ => True) v52010 y52009 at ho; have n0_ := Aside0.mk (hb); have n1_ := Aside0.mk (ho); clear HB; clear HO52007; have HB := n0_; have HO52011 := n1_; clear n0_ n1_; clear ho hb hg hat) | ((with_reducible refine gate_builtin (b := .append) (xs := #[.tmp 28, .tmp 29]) rfl ?_); at_builtin; refine Kd.R_append (Kd.int .u8) (w0 := w) w.heap.size rfl (.tmp 28) (.tmp 29) 42 5 (.int .u8 0) 1 rfl Tryd.underlying42 info5 rfl (by decide) (by omega) v52010 y52009 0 [.int .u8 0] (fun _ => True) (fun _ => False) rfl rfl ?aP (fun _ hk => hk.elim) ?aF ?aO ?aB ?aS ?aL ?_; (case aP => exact rfl); (case aB => exact (by repeat (first | (with_reducible first | exact HB.out | apply below_alloc | apply pw_below_drewN | apply below_drew1) | exact HB.out))); (case aF => exact (fun _ _ => trivial)); (case aO => exact (by (with_reducible repeat (first | apply Kd.R_alloc | apply Kd.R_drewN | apply Kd.R_drew)); exact HO52011.out)); (case aS => exact (below_size (by repeat (first | (with_reducible first | exact HB.out | apply below_alloc | apply pw_below_drewN | apply below_drew1) | exact HB.out)))); (case aL => have := LMc7.out; omega); intro v52013 w11 ho hb hg hat; rw [← Ny52012.out] at ho; have n0_ := Aside0.mk (hb); have n1_ := Aside0.mk (ho); clear HB; clear HO52011; have HB := n0_; have HO52014 := n1_; clear n0_ n1_; clear ho hb hg hat))
                  go_roundg k1
                  case measure => have := HK1.out; omega
                  case rel => exact ⟨(y52012), (wrap64 (x4_1 + 1)), (by first | rfl | (simp; done) | (simp [*]; done)), H', ⟨by have := HK1.out; omega⟩, ⟨by (with_reducible repeat (first | apply Kd.R_alloc | apply Kd.R_drewN | apply Kd.R_drew)); exact HO52014.out⟩, ⟨by repeat (first | (with_reducible first | exact HB.out | apply below_alloc | apply pw_below_drewN | apply below_drew1) | exact HB.out)⟩⟩
                · rw [if_neg c7] at H
                  exact absurd H (by simp)
              · rw [if_neg c6] at H
                exact absurd H (by simp)
            · rw [if_neg c5] at H
              exact absurd H (by simp)
          · rw [if_neg c4] at H
            exact absurd H (by simp)
        · rw [if_neg c3] at H
          exact absurd H (by simp)
      · rw [if_neg c2] at H
        have c2b0 : decide (x4_1 < (l0.length : Int)) = false := decide_eq_false c2
        clear c2
        obtain rfl := Option.some.inj H
        go_wp2
        go_ret
        exact ⟨_, by first | rfl | (simp [errW_none, errW_some] <;> rfl) | (simp [*, errW_none, errW_some] <;> rfl), by (with_reducible repeat (first | apply Kd.R_alloc | apply Kd.R_drewN | apply Kd.R_drew)); exact HO_3.out, by repeat (first | (with_reducible first | exact HB.out | apply below_alloc | apply pw_below_drewN | apply below_drew1) | exact HB.out)⟩

end Go.Proofs.YtefhngadeimklaaDoor.Q
end
section
namespace Go.Proofs.YtefhngadeimklaaDoor.Q
open Go.RowKit Go.Proofs.YtefhngadeimklaaDoorW.PrintWords Go.Proofs.YtefhngadeimklaaDoorW.PrintLast Go.Proofs.YtefhngadeimklaaDoorW.PrintMore
set_option linter.unusedVariables false
set_option linter.unusedSimpArgs false

attribute [local go_sem] max2_int min2_int max_two min_two max_three min_three max_four min_four
/-! ### tinderref19_Encode: function 27 -/
def tinderref19_Encode.f (k : Nat) (l0 : List (S40)) : Option (List Int × Int) := (tinderref19_Right.f k l0).bind fun t28001 => (if t28001 = true then ((tinderref19_bytes.f k l0).bind fun t28002 => (if (t28002.length : Int) > 248 then (some (([] : List Int), 10)) else (some (t28002, 0)))) else (some (([] : List Int), 1)))
set_option maxHeartbeats 8000000 in
set_option maxRecDepth 100000 in
theorem tinderref19_Encode.calls (k : Nat) (A0 : Option Addr) (c0 : Nat) (l0 : List (S40)) (r1 : List Int) (r2 : Int) (w : World) (hr0 : Kd.C k40 w A0 l0.length l0) (hc0 : l0.length ≤ c0) (h : tinderref19_Encode.f k l0 = some (r1, r2)) :
    Calls Tryd.prog 27 #[.slice A0 l0.length c0] w fun e w' => ∃ v0_ : Value, e = .returned (.tuple #[v0_, .int .i64 r2]) ∧ Kd.R (Kd.int .u8) 5 w' w.heap.size (fun _ => True) v0_ r1 ∧ Below w.heap.size w w' := by
  have HR0 := Aside0.mk hr0
  have HC0 := Aside0.mk hc0
  clear hr0 hc0
  have HB := Aside0.mk (Below.refl w.heap.size w)
  have H : ((tinderref19_Right.f k l0).bind fun t28001 => (if t28001 = true then ((tinderref19_bytes.f k l0).bind fun t28002 => (if (t28002.length : Int) > 248 then (some (([] : List Int), 10)) else (some (t28002, 0)))) else (some (([] : List Int), 1)))) = some (r1, r2) := h
  clear h
  replace H := Option.bind_eq_some_iff.mp H
  obtain ⟨t28001, A20, H⟩ := H
  replace H : (if t28001 = true then ((tinderref19_bytes.f k l0).bind fun t28002 => (if (t28002.length : Int) > 248 then (some (([] : List Int), 10)) else (some (t28002, 0)))) else (some (([] : List Int), 1))) = some (r1, r2) := H
  have A2 := Aside0.mk A20
  clear A20
  by_cases c3 : t28001 = true
  · subst c3
    have H1 : ((tinderref19_bytes.f k l0).bind fun t28002 => (if (t28002.length : Int) > 248 then (some (([] : List Int), 10)) else (some (t28002, 0)))) = some (r1, r2) := by rw [if_pos rfl] at H; exact H
    clear H
    have H := H1
    clear H1
    replace H := Option.bind_eq_some_iff.mp H
    obtain ⟨t28002, A40, H⟩ := H
    replace H : (if (t28002.length : Int) > 248 then (some (([] : List Int), 10)) else (some (t28002, 0))) = some (r1, r2) := H
    have A4 := Aside0.mk A40
    clear A40
    by_cases c5 : (t28002.length : Int) > 248
    · rw [if_pos c5] at H
      have c5b0 : decide (248 < (t28002.length : Int)) = true := decide_eq_true c5
      have c5b1 : decide (248 < t28002.length) = true := decide_eq_true (by omega)
      clear c5
      simp only [Option.some.injEq, Prod.mk.injEq] at H
      obtain ⟨rfl, rfl⟩ := H
      go_enter Tryd.func27, Tryd.ntmps27
      go_wp2_with (first | ((with_reducible refine gate_callee (f := 25) rfl ?_); refine goesL_ (some 6) rfl rfl Tryd.func25 (by kernel_rfl) rfl #[.slice A0 l0.length c0] rfl (by (try simp only [List.map_toArray, List.map_cons, List.map_nil]); first | done | rfl | (simp only [List.length_drop, List.length_take]; rfl)) ?_; (with_reducible refine (tinderref19_Right.calls k _ _ l0 true _ ?side1 ?side2 A2.out).mono ?_); (case side1 => repeat (first | exact HR0.out | (with_reducible refine Kd.C_alloc ?_ _) | (with_reducible refine Kd.C_drewN ?_ _) | (with_reducible refine Kd.C_drew ?_))); (case side2 => exact HC0.out); rintro e w6 ⟨rfl, hb⟩; refine ⟨_, rfl, ?_⟩; have n0_ := Aside0.mk (below_step (by repeat (first | (with_reducible first | exact HB.out | apply below_alloc | apply pw_below_drewN | apply below_drew1) | exact HB.out)) hb); clear HB; have HB := n0_; clear n0_; (try clear hb); (try clear hb2); (try clear hk); (try clear hi)) | ((with_reducible refine gate_callee (f := 51) rfl ?_); refine goesL_ (some 9) rfl rfl Tryd.func51 (by kernel_rfl) rfl #[.slice A0 l0.length c0] rfl (by (try simp only [List.map_toArray, List.map_cons, List.map_nil]); first | done | rfl | (simp only [List.length_drop, List.length_take]; rfl)) ?_; (with_reducible refine (tinderref19_bytes.calls k _ _ l0 t28002 _ ?side1 ?side2 A4.out).mono ?_); (case side1 => repeat (first | exact (Kd.C_below HR0.out HB.out) | (with_reducible refine Kd.C_alloc ?_ _) | (with_reducible refine Kd.C_drewN ?_ _) | (with_reducible refine Kd.C_drew ?_))); (case side2 => exact HC0.out); rintro e w7 ⟨v28003, rfl, ho0, hb⟩; refine ⟨_, rfl, ?_⟩; have n0_ := Aside0.mk (Kd.R_lower ho0 (below_size (by repeat (first | (with_reducible first | exact HB.out | apply below_alloc | apply pw_below_drewN | apply below_drew1) | exact HB.out)))); have n1_ := Aside0.mk (below_step (by repeat (first | (with_reducible first | exact HB.out | apply below_alloc | apply pw_below_drewN | apply below_drew1) | exact HB.out)) hb); clear HB; have HO28004 := n0_; have HB := n1_; clear n0_ n1_; (try clear hb); (try clear hb2); (try clear hk); (try clear hi); (try clear ho0); obtain ⟨Ao8, co8, eo8⟩ := Kd.R_slice HO28004.out; subst eo8))
      go_ret2
      exact ⟨_, by first | rfl | (simp [errW_none, errW_some] <;> rfl) | (simp [*, errW_none, errW_some] <;> rfl), by first | exact Kd.R_nil _ _ _ _ _ | exact Kd.N_nil _ _ _ _ _ | exact Kd.V_nil _ _ _ _ _ | exact Kd.Q_nil _ _ _ _ _ | exact Kd.S_nil _ _ _ _ _, by repeat (first | (with_reducible first | exact HB.out | apply below_alloc | apply pw_below_drewN | apply below_drew1) | exact HB.out)⟩
    · rw [if_neg c5] at H
      have c5b0 : decide (248 < (t28002.length : Int)) = false := decide_eq_false c5
      have c5b1 : decide (248 < t28002.length) = false := decide_eq_false (by omega)
      clear c5
      simp only [Option.some.injEq, Prod.mk.injEq] at H
      obtain ⟨rfl, rfl⟩ := H
      go_enter Tryd.func27, Tryd.ntmps27
      go_wp2_with (first | ((with_reducible refine gate_callee (f := 25) rfl ?_); refine goesL_ (some 6) rfl rfl Tryd.func25 (by kernel_rfl) rfl #[.slice A0 l0.length c0] rfl (by (try simp only [List.map_toArray, List.map_cons, List.map_nil]); first | done | rfl | (simp only [List.length_drop, List.length_take]; rfl)) ?_; (with_reducible refine (tinderref19_Right.calls k _ _ l0 true _ ?side1 ?side2 A2.out).mono ?_); (case side1 => repeat (first | exact HR0.out | (with_reducible refine Kd.C_alloc ?_ _) | (with_reducible refine Kd.C_drewN ?_ _) | (with_reducible refine Kd.C_drew ?_))); (case side2 => exact HC0.out); rintro e w9 ⟨rfl, hb⟩; refine ⟨_, rfl, ?_⟩; have n0_ := Aside0.mk (below_step (by repeat (first | (with_reducible first | exact HB.out | apply below_alloc | apply pw_below_drewN | apply below_drew1) | exact HB.out)) hb); clear HB; have HB := n0_; clear n0_; (try clear hb); (try clear hb2); (try clear hk); (try clear hi)) | ((with_reducible refine gate_callee (f := 51) rfl ?_); refine goesL_ (some 9) rfl rfl Tryd.func51 (by kernel_rfl) rfl #[.slice A0 l0.length c0] rfl (by (try simp only [List.map_toArray, List.map_cons, List.map_nil]); first | done | rfl | (simp only [List.length_drop, List.length_take]; rfl)) ?_; (with_reducible refine (tinderref19_bytes.calls k _ _ l0 t28002 _ ?side1 ?side2 A4.out).mono ?_); (case side1 => repeat (first | exact (Kd.C_below HR0.out HB.out) | (with_reducible refine Kd.C_alloc ?_ _) | (with_reducible refine Kd.C_drewN ?_ _) | (with_reducible refine Kd.C_drew ?_))); (case side2 => exact HC0.out); rintro e w10 ⟨v28003, rfl, ho0, hb⟩; refine ⟨_, rfl, ?_⟩; have n0_ := Aside0.mk (Kd.R_lower ho0 (below_size (by repeat (first | (with_reducible first | exact HB.out | apply below_alloc | apply pw_below_drewN | apply below_drew1) | exact HB.out)))); have n1_ := Aside0.mk (below_step (by repeat (first | (with_reducible first | exact HB.out | apply below_alloc | apply pw_below_drewN | apply below_drew1) | exact HB.out)) hb); clear HB; have HO28004 := n0_; have HB := n1_; clear n0_ n1_; (try clear hb); (try clear hb2); (try clear hk); (try clear hi); (try clear ho0); obtain ⟨Ao11, co11, eo11⟩ := Kd.R_slice HO28004.out; subst eo11))
      go_ret2
      exact ⟨_, by first | rfl | (simp [errW_none, errW_some] <;> rfl) | (simp [*, errW_none, errW_some] <;> rfl), by (with_reducible repeat (first | apply Kd.R_alloc | apply Kd.R_drewN | apply Kd.R_drew)); exact HO28004.out, by repeat (first | (with_reducible first | exact HB.out | apply below_alloc | apply pw_below_drewN | apply below_drew1) | exact HB.out)⟩
  · replace c3 := Bool.eq_false_iff.mpr c3
    subst c3
    have H1 : (some (([] : List Int), 1)) = some (r1, r2) := by rw [if_neg (show ¬ (false = true) by decide)] at H; exact H
    clear H
    have H := H1
    clear H1
    simp only [Option.some.injEq, Prod.mk.injEq] at H
    obtain ⟨rfl, rfl⟩ := H
    go_enter Tryd.func27, Tryd.ntmps27
    go_wp2_with (first | ((with_reducible refine gate_callee (f := 25) rfl ?_); refine goesL_ (some 6) rfl rfl Tryd.func25 (by kernel_rfl) rfl #[.slice A0 l0.length c0] rfl (by (try simp only [List.map_toArray, List.map_cons, List.map_nil]); first | done | rfl | (simp only [List.length_drop, List.length_take]; rfl)) ?_; (with_reducible refine (tinderref19_Right.calls k _ _ l0 false _ ?side1 ?side2 A2.out).mono ?_); (case side1 => repeat (first | exact HR0.out | (with_reducible refine Kd.C_alloc ?_ _) | (with_reducible refine Kd.C_drewN ?_ _) | (with_reducible refine Kd.C_drew ?_))); (case side2 => exact HC0.out); rintro e w12 ⟨rfl, hb⟩; refine ⟨_, rfl, ?_⟩; have n0_ := Aside0.mk (below_step (by repeat (first | (with_reducible first | exact HB.out | apply below_alloc | apply pw_below_drewN | apply below_drew1) | exact HB.out)) hb); clear HB; have HB := n0_; clear n0_; (try clear hb); (try clear hb2); (try clear hk); (try clear hi)))
    go_ret2
    exact ⟨_, by first | rfl | (simp [errW_none, errW_some] <;> rfl) | (simp [*, errW_none, errW_some] <;> rfl), by first | exact Kd.R_nil _ _ _ _ _ | exact Kd.N_nil _ _ _ _ _ | exact Kd.V_nil _ _ _ _ _ | exact Kd.Q_nil _ _ _ _ _ | exact Kd.S_nil _ _ _ _ _, by repeat (first | (with_reducible first | exact HB.out | apply below_alloc | apply pw_below_drewN | apply below_drew1) | exact HB.out)⟩

end Go.Proofs.YtefhngadeimklaaDoor.Q
end
section
namespace Go.Proofs.YtefhngadeimklaaDoor.Q
open Go.RowKit Go.Proofs.YtefhngadeimklaaDoorW.PrintWords Go.Proofs.YtefhngadeimklaaDoorW.PrintLast Go.Proofs.YtefhngadeimklaaDoorW.PrintMore
set_option linter.unusedVariables false
set_option linter.unusedSimpArgs false

attribute [local go_sem] max2_int min2_int max_two min_two max_three min_three max_four min_four
/-! ### tinderref04_Same: function 30 -/
def tinderref04_Same.f (l0 : List Int) (l1 : List Int) : Option (Bool) := some ((strOfNums l0).toList == (strOfNums l1).toList)

end Go.Proofs.YtefhngadeimklaaDoor.Q
end
section
namespace Go.Proofs.YtefhngadeimklaaDoor.Q
open Go.RowKit Go.Proofs.YtefhngadeimklaaDoorW.PrintWords Go.Proofs.YtefhngadeimklaaDoorW.PrintLast Go.Proofs.YtefhngadeimklaaDoorW.PrintMore
set_option linter.unusedVariables false
set_option linter.unusedSimpArgs false

attribute [local go_sem] max2_int min2_int max_two min_two max_three min_three max_four min_four
theorem eqA40 (d : Nat) (w : World) (x0 y0 : ByteArray) (x1 y1 : ByteArray) :
    (Op.equalIn (d + 2) 40 (.agg #[.string x0, .string x1]) (.agg #[.string y0, .string y1])).run Tryd.prog w = .ok (x0.toList == y0.toList && (x1.toList == y1.toList)) w := by
  refine eqA_of Tryd.underlying40 (by kernel_rfl) ?_
  refine eqf_cons (by rfl) (by go_simp; rfl) (by go_simp; rfl) (by go_simp) ?_
  exact eqf_last (by rfl) (by go_simp; rfl) (by go_simp; rfl) (by go_simp)
end Go.Proofs.YtefhngadeimklaaDoor.Q
end
section
namespace Go.Proofs.YtefhngadeimklaaDoor.Q
open Go.RowKit Go.Proofs.YtefhngadeimklaaDoorW.PrintWords Go.Proofs.YtefhngadeimklaaDoorW.PrintLast Go.Proofs.YtefhngadeimklaaDoorW.PrintMore
set_option linter.unusedVariables false
set_option linter.unusedSimpArgs false

attribute [local go_sem] max2_int min2_int max_two min_two max_three min_three max_four min_four
attribute [local go_sem high] eqA40
/-! ### tinderref19_Same: function 15 -/
def tinderref19_Same.l0 : Nat → List (S40) → List (S40) → Int → Option (Bool)
  | 0, _, _, _ => none
  | k + 1, x0, x1, x5 => if x5 < (x0.length : Int) then (if 0 ≤ x5 then (if x5 < (x1.length : Int) then (if (!((((rd_T40 x0 x5).f0).toList) == (((rd_T40 x1 x5).f0).toList)) || (!((((rd_T40 x0 x5).f1).toList) == (((rd_T40 x1 x5).f1).toList)))) = true then (some false) else (tinderref19_Same.l0 k x0 x1 (wrap64 (x5 + 1)))) else (none)) else (none)) else (some true)
def tinderref19_Same.f (k : Nat) (l0 : List (S40)) (l1 : List (S40)) : Option (Bool) := if (l0.length : Int) = (l1.length : Int) then (tinderref19_Same.l0 k l0 l1 0) else (some false)
set_option maxHeartbeats 8000000 in
set_option maxRecDepth 100000 in
theorem tinderref19_Same.calls (k : Nat) (A0 : Option Addr) (c0 : Nat) (l0 : List (S40)) (A1 : Option Addr) (c1 : Nat) (l1 : List (S40)) (r : Bool) (w : World) (hr0 : Kd.C k40 w A0 l0.length l0) (hc0 : l0.length ≤ c0) (hr1 : Kd.C k40 w A1 l1.length l1) (hc1 : l1.length ≤ c1) (h : tinderref19_Same.f k l0 l1 = some r) :
    Calls Tryd.prog 15 #[.slice A0 l0.length c0, .slice A1 l1.length c1] w fun e w' => e = .returned (.bool r) ∧ Drawn0 w w' := by
  have hu40 := Tryd.underlying40
  have HR0 := Aside0.mk hr0
  have HC0 := Aside0.mk hc0
  clear hr0 hc0
  have HR1 := Aside0.mk hr1
  have HC1 := Aside0.mk hc1
  clear hr1 hc1
  have H : (if (l0.length : Int) = (l1.length : Int) then (tinderref19_Same.l0 k l0 l1 0) else (some false)) = some r := h
  clear h
  by_cases c3 : (l0.length : Int) = (l1.length : Int)
  · rw [if_pos c3] at H
    have c3b0 : ((l0.length : Int) == (l1.length : Int)) = true := beq_iff_eq.mpr c3
    have c3b1 : ((l0.length : Int) != (l1.length : Int)) = false := bne_eq_false_iff_eq.mpr c3
    have c3b2 : (l0.length == l1.length) = true := by first | simpa using c3 | (simp at c3 ⊢; omega)
    clear c3
    have H' := Aside0.mk H
    clear H
    go_enter Tryd.func15, Tryd.ntmps15
    go_wp2
    repeat (go_quiet (fail); try go_wp2)
    go_loopg [5] k (fun kq v5 w' => ∃ (x5_1 : Int), v5 = .int .i64 x5_1 ∧ Aside0 (tinderref19_Same.l0 kq l0 l1 x5_1 = some r) ∧ Aside0 (kq ≤ k) ∧ Drawn0 w w')
    case atStart => exact ⟨(0), (by first | rfl | (simp; done) | (simp [*]; done)), H', ⟨Nat.le_refl _⟩, by repeat (first | exact Drawn0.refl _ | apply Drawn0.step)⟩
    case round =>
      clear H'
      try clear c1
      try clear p2
      try clear c3
      try clear c3b0
      try clear c3b1
      try clear c3b2
      obtain ⟨x5_1, rfl, HA, HK1, ⟨m1, rfl⟩⟩ := hrel
      cases gk with
      | zero => exact absurd HA.out (by simp [tinderref19_Same.l0])
      | succ k1 =>
        have H := HA.out
        clear HA
        simp only [tinderref19_Same.l0] at H
        by_cases c4 : x5_1 < (l0.length : Int)
        · rw [if_pos c4] at H
          have c4b0 : decide (x5_1 < (l0.length : Int)) = true := decide_eq_true c4
          clear c4
          by_cases c5 : 0 ≤ x5_1
          · rw [if_pos c5] at H
            have c5b0 : decide (0 ≤ x5_1) = true := decide_eq_true c5
            clear c5
            by_cases c6 : x5_1 < (l1.length : Int)
            · rw [if_pos c6] at H
              have c6b0 : decide (x5_1 < (l1.length : Int)) = true := decide_eq_true c6
              clear c6
              by_cases c7 : (!((((rd_T40 l0 x5_1).f0).toList) == (((rd_T40 l1 x5_1).f0).toList)) || (!((((rd_T40 l0 x5_1).f1).toList) == (((rd_T40 l1 x5_1).f1).toList)))) = true
              · rw [if_pos c7] at H
                have c7b0 : (!((((rd_T40 l0 x5_1).f0).toList) == (((rd_T40 l1 x5_1).f0).toList)) || (!((((rd_T40 l0 x5_1).f1).toList) == (((rd_T40 l1 x5_1).f1).toList)))) = true := c7
                clear c7
                obtain rfl := Option.some.inj H
                have p16001 : 0 ≤ (x5_1 : Int) := of_decide_eq_true (by first | (with_reducible assumption) | assumption)
                have q16001 : x5_1 < (l0.length : Int) := of_decide_eq_true (by first | (with_reducible assumption) | assumption)
                obtain ⟨ad16001, e16001, hx16001_0, hx16001_1⟩ := at_T40 HR0.out x5_1 p16001 q16001
                cases e16001
                replace p16001 := eq_true p16001
                replace q16001 := eq_true q16001
                have p16002 : 0 ≤ (x5_1 : Int) := of_decide_eq_true (by first | (with_reducible assumption) | assumption)
                have q16002 : x5_1 < (l1.length : Int) := of_decide_eq_true (by first | (with_reducible assumption) | assumption)
                obtain ⟨ad16002, e16002, hx16002_0, hx16002_1⟩ := at_T40 HR1.out x5_1 p16002 q16002
                cases e16002
                replace p16002 := eq_true p16002
                replace q16002 := eq_true q16002
                go_wp2
                repeat (go_quiet (fail); try go_wp2)
                go_ret
                exact ⟨by first | rfl | (simp; done) | (simp [*]; done), by repeat (first | exact Drawn0.refl _ | apply Drawn0.step)⟩
              · rw [if_neg c7] at H
                have c7b0 : (!((((rd_T40 l0 x5_1).f0).toList) == (((rd_T40 l1 x5_1).f0).toList)) || (!((((rd_T40 l0 x5_1).f1).toList) == (((rd_T40 l1 x5_1).f1).toList)))) = false := by simpa using c7
                clear c7
                have H' := Aside0.mk H
                clear H
                have p16001 : 0 ≤ (x5_1 : Int) := of_decide_eq_true (by first | (with_reducible assumption) | assumption)
                have q16001 : x5_1 < (l0.length : Int) := of_decide_eq_true (by first | (with_reducible assumption) | assumption)
                obtain ⟨ad16001, e16001, hx16001_0, hx16001_1⟩ := at_T40 HR0.out x5_1 p16001 q16001
                cases e16001
                replace p16001 := eq_true p16001
                replace q16001 := eq_true q16001
                have p16002 : 0 ≤ (x5_1 : Int) := of_decide_eq_true (by first | (with_reducible assumption) | assumption)
                have q16002 : x5_1 < (l1.length : Int) := of_decide_eq_true (by first | (with_reducible assumption) | assumption)
                obtain ⟨ad16002, e16002, hx16002_0, hx16002_1⟩ := at_T40 HR1.out x5_1 p16002 q16002
                cases e16002
                replace p16002 := eq_true p16002
                replace q16002 := eq_true q16002
                go_wp2
                repeat (go_quiet (fail); try go_wp2)
                go_roundg k1
                case measure => have := HK1.out; omega
                case rel => exact ⟨(wrap64 (x5_1 + 1)), (by first | rfl | (simp; done) | (simp [*]; done)), H', ⟨by have := HK1.out; omega⟩, by repeat (first | exact Drawn0.refl _ | apply Drawn0.step)⟩
            · rw [if_neg c6] at H
              exact absurd H (by simp)
          · rw [if_neg c5] at H
            exact absurd H (by simp)
        · rw [if_neg c4] at H
          have c4b0 : decide (x5_1 < (l0.length : Int)) = false := decide_eq_false c4
          clear c4
          obtain rfl := Option.some.inj H
          go_wp2
          repeat (go_quiet (fail); try go_wp2)
          go_ret
          exact ⟨by first | rfl | (simp; done) | (simp [*]; done), by repeat (first | exact Drawn0.refl _ | apply Drawn0.step)⟩
  · rw [if_neg c3] at H
    have c3b0 : ((l0.length : Int) == (l1.length : Int)) = false := beq_eq_false_iff_ne.mpr c3
    have c3b1 : ((l0.length : Int) != (l1.length : Int)) = true := bne_iff_ne.mpr c3
    have c3b2 : (l0.length == l1.length) = false := by first | simpa using c3 | (simp at c3 ⊢; omega)
    obtain rfl := Option.some.inj H
    go_enter Tryd.func15, Tryd.ntmps15
    go_wp2
    repeat (go_quiet (fail); try go_wp2)
    go_ret
    exact ⟨by first | rfl | (simp; done) | (simp [*]; done), by repeat (first | exact Drawn0.refl _ | apply Drawn0.step)⟩

end Go.Proofs.YtefhngadeimklaaDoor.Q
end
section
set_option linter.unusedSimpArgs false
set_option linter.unusedVariables false
namespace Go.Proofs.YtefhngadeimklaaDoor.Q
open Go.RowKit Go.Proofs.YtefhngadeimklaaDoorW.PrintWords Go.Proofs.YtefhngadeimklaaDoorW.PrintLast
theorem bytesOf_congr {s t : ByteArray} (h : s.toList = t.toList) : bytesOf s = bytesOf t := by
  unfold bytesOf
  rw [← ByteArray.toList_eq, ← ByteArray.toList_eq, h]
theorem size_congr {s t : ByteArray} (h : s.toList = t.toList) : s.size = t.size := by rw [← bytesOf_length, ← bytesOf_length, bytesOf_congr h]
/-- What a right setting's name and value are free of. -/
def Clean (x : S40) : Prop := (∀ a ∈ bytesOf x.f0, a ≠ 0 ∧ a ≠ 61) ∧ (∀ a ∈ bytesOf x.f1, a ≠ 0) ∧ x.f0.size ≤ 12 ∧ x.f1.size ≤ 128
theorem name_clean (i : Int) (h : 0 ≤ i ∧ i < 9) : (∀ a ∈ bytesOf (nmV i), a ≠ 0 ∧ a ≠ 61) ∧ (nmV i).size ≤ 12 := by
  obtain h | h | h | h | h | h | h | h | h : i = 0 ∨ i = 1 ∨ i = 2 ∨ i = 3 ∨ i = 4 ∨ i = 5 ∨ i = 6 ∨ i = 7 ∨ i = 8 := by omega
  all_goals (subst h; decide)
theorem showL_chars : ∀ u : Nat, ∀ c ∈ showL 10 u, 48 ≤ c.toNat := by
  intro u
  induction u using Nat.strongRecOn with
  | _ u ih =>
    have hch : ∀ v : Nat, v < 10 → 48 ≤ (UInt8.ofNat (chN v)).toNat := by
      intro v hv
      unfold chN
      rw [if_pos hv, UInt8.toNat_ofNat']
      omega
    intro c hc
    by_cases h : u < 10
    · rw [showL_small h] at hc
      obtain rfl := List.mem_singleton.1 hc
      exact hch u h
    · rw [showL_big (by decide) (by omega)] at hc
      rcases List.mem_append.1 hc with hc | hc
      · exact ih (u / 10) (by omega) c hc
      · obtain rfl := List.mem_singleton.1 hc
        exact hch _ (by omega)
theorem showB_bytes (b n : Int) : bytesOf (showB b n) = (showL b.toNat n.toNat).map fun c => (c.toNat : Int) := rfl
theorem ok_clean (last : Int) (x : S40) (hs : x.f1.size ≤ 140737488351232) (h : okV last x = true) : Clean x ∧ last < fndF x.f0 := by
  unfold okV at h
  simp only [Bool.and_eq_true, decide_eq_true_eq] at h
  obtain ⟨⟨⟨⟨h1, h2⟩, h3⟩, h4⟩, _⟩ := h
  have hr := fndF_range x.f0
  have hnm := fndG_name x.f0 9 0 (Int.le_refl _) h1
  have hc := name_clean (fndF x.f0) ⟨h1, hr.2⟩
  have hn : bytesOf x.f0 = bytesOf (nmV (fndF x.f0)) := bytesOf_congr hnm.symm
  refine ⟨⟨fun a ha => hc.1 a (hn ▸ ha), ?_⟩, h3⟩
  have hsz : x.f0.size ≤ 12 := by rw [size_congr hnm.symm]; exact hc.2
  suffices h : (∀ a ∈ bytesOf x.f1, a ≠ 0) ∧ x.f1.size ≤ 128 from ⟨h.1, hsz, h.2⟩
  have hv := bytesOf_congr h4
  have hvs := size_congr h4
  unfold formV at h2 hv hvs
  by_cases k0 : kdV (fndF x.f0) = 0
  · rw [if_pos k0] at h2
    simp only [Bool.or_eq_true, decide_eq_true_eq] at h2
    have ht : bytesOf x.f1 = x.f1.toList.map fun b => (b.toNat : Int) := by unfold bytesOf; rw [ByteArray.toList_eq]
    have hz : x.f1.size = x.f1.toList.length := by rw [← bytesOf_length, ht, List.length_map]
    rcases h2 with h2 | h2
    · rw [ht, hz, h2]; decide
    · rw [ht, hz, h2]; decide
  · rw [if_neg k0] at h2 hv hvs
    by_cases k1 : kdV (fndF x.f0) = 1
    · rw [if_pos k1] at h2 hv hvs
      by_cases hp : (parF x.f1 10).2 = 0
      · rw [if_pos hp] at hv hvs
        have hpr := par_range x.f1 10 (by decide) (by omega)
        constructor
        · intro a ha
          rw [← hv, showB_bytes] at ha
          obtain ⟨c, hc, rfl⟩ := List.mem_map.1 ha
          have := showL_chars _ c hc
          omega
        · rw [← hvs, ← bytesOf_length, showB_bytes, List.length_map]
          have := showL_len 10 (by decide) 31 (parF x.f1 10).1.toNat (by omega)
          show (showL 10 (parF x.f1 10).1.toNat).length ≤ 128
          omega
      · rw [if_neg hp] at h2; exact absurd h2 (by decide)
    · rw [if_neg k1] at h2
      by_cases ha : (bytesOf x.f1).all okB = true
      · rw [if_pos ha] at h2
        refine ⟨fun a hm => ?_, of_decide_eq_true h2⟩
        have := List.all_eq_true.1 ha a hm
        unfold okB at this
        simp only [Bool.and_eq_true, decide_eq_true_eq] at this
        omega
      · rw [if_neg ha] at h2; exact absurd h2 (by decide)
theorem right_clean : ∀ (l : List S40) (last : Int), Fits l → -1 ≤ last → last ≤ 8 → rightL l last = true → (∀ x ∈ l, Clean x) ∧ (l.length : Int) ≤ 8 - last
  | [], last, _, _, h8, _ => ⟨fun x hx => (List.not_mem_nil hx).elim, by simp; omega⟩
  | x :: r, last, hf, h1, h8, h => by
    rw [rightL, Bool.and_eq_true] at h
    have hr := fndF_range x.f0
    have hx := ok_clean last x (hf x (List.mem_cons_self ..)).2 h.1
    have ih := right_clean r (fndF x.f0) (fun y hy => hf y (List.mem_cons_of_mem _ hy)) hr.1 (by omega) h.2
    refine ⟨fun y hy => ?_, by rw [List.length_cons]; omega⟩
    rcases List.mem_cons.1 hy with rfl | hy
    · exact hx.1
    · exact ih.1 y hy
theorem encF_small : ∀ (l : List S40), (∀ x ∈ l, Clean x) → (encF l).length ≤ 142 * l.length
  | [], _ => by simp [encF]
  | x :: r, h => by
    have ih := encF_small r (fun y hy => h y (List.mem_cons_of_mem _ hy))
    have hx := h x (List.mem_cons_self ..)
    rw [show encF (x :: r) = encX x ++ encF r from rfl, List.length_append, encX_length, List.length_cons]
    have := hx.2.2
    omega
theorem right_small (l : List S40) (hf : Fits l) (h : rightF l = true) : (∀ x ∈ l, Clean x) ∧ (encF l).length ≤ 1000000 := by
  have h1 := right_clean l (-1) hf (by decide) (by decide) h
  have h2 := encF_small l h1.1
  exact ⟨h1.1, by omega⟩
def encodeF (l : List S40) : List Int × Int := if rightF l = true then (if 248 < (encF l).length then (([] : List Int), 10) else (encF l, 0)) else (([] : List Int), 1)
theorem encode_eq (l : List S40) (hf : Fits l) (hl : l.length < 1125899906842624) (k : Nat) (hk : l.length + 140737488351400 < k) : vars_Encode.f k l = some (encodeF l) := by
  unfold vars_Encode.f encodeF
  rw [right_eq l hf hl k hk, Option.bind_some]
  by_cases h : rightF l = true
  · rw [if_pos h, if_pos h, if_pos (right_small l hf h).2]
    split <;> rfl
  · rw [if_neg h, if_neg h]
theorem bytes_go (l : List S40) (hl : l.length < 1125899906842624) : ∀ (d k : Nat) (i : Int) (acc : List Int), 0 ≤ i → i + d = l.length → acc.length + (encF (l.drop i.toNat)).length ≤ 1000000 → d < k → tinderref19_bytes.l0 k l acc i = some (acc ++ encF (l.drop i.toNat))
  | 0, k, i, acc, h0, h1, ha, hk => by
    obtain ⟨k, rfl⟩ : ∃ m, k = m + 1 := ⟨k - 1, by omega⟩
    rw [tinderref19_bytes.l0, if_neg (by omega), List.drop_eq_nil_of_le (by omega)]
    simp [encF]
  | d + 1, k, i, acc, h0, h1, ha, hk => by
    obtain ⟨k, rfl⟩ : ∃ m, k = m + 1 := ⟨k - 1, by omega⟩
    have hw : wrap64 (i + 1) = i + 1 := by unfold wrap64; omega
    have e : encF (l.drop i.toNat) = encX (rd_T40 l i) ++ encF (l.drop (i + 1).toNat) := by rw [at_drop l i h0 (by omega)]; rfl
    rw [e, List.length_append, encX_length] at ha
    have ih := bytes_go l hl d k (i + 1) (acc ++ encX (rd_T40 l i)) (by omega) (by omega) (by rw [List.length_append, encX_length]; omega) (by omega)
    have e2 : ((acc ++ bytesOf (rd_T40 l i).f0) ++ [61] ++ bytesOf (rd_T40 l i).f1) ++ [0] = acc ++ encX (rd_T40 l i) := by
      unfold encX
      simp only [List.append_assoc]
    rw [tinderref19_bytes.l0, if_pos (by omega), if_pos h0, if_pos (by omega), Option.bind_some, if_pos (by rw [List.length_append, bytesOf_length]; omega), Option.bind_some, if_pos (by simp only [List.length_append, bytesOf_length, List.length_singleton]; omega), Option.bind_some, if_pos (by simp only [List.length_append, bytesOf_length, List.length_singleton]; omega), hw, e2, ih, e, List.append_assoc]
theorem refencode_eq (l : List S40) (hf : Fits l) (hl : l.length < 1125899906842624) (k : Nat) (hk : l.length + 140737488351400 < k) : tinderref19_Encode.f k l = some (encodeF l) := by
  unfold tinderref19_Encode.f encodeF
  rw [refright_eq l hf hl k hk, Option.bind_some]
  by_cases h : rightF l = true
  · have hs := (right_small l hf h).2
    have hb : tinderref19_bytes.f k l = some (encF l) := by
      have := bytes_go l hl l.length k 0 [] (Int.le_refl _) (by omega) (by simpa using hs) (by omega)
      unfold tinderref19_bytes.f
      simpa using this
    rw [if_pos h, if_pos h, hb, Option.bind_some]
    by_cases h2 : 248 < (encF l).length
    · rw [if_pos h2, if_pos (by omega)]
    · rw [if_neg h2, if_neg (by omega)]
  · rw [if_neg h, if_neg h]
theorem same19_go (l : List S40) (hl : l.length < 1125899906842624) : ∀ (d k : Nat) (i : Int), 0 ≤ i → i + d = l.length → d < k → tinderref19_Same.l0 k l l i = some true
  | 0, k, i, h0, h1, hk => by
    obtain ⟨k, rfl⟩ : ∃ m, k = m + 1 := ⟨k - 1, by omega⟩
    rw [tinderref19_Same.l0, if_neg (by omega)]
  | d + 1, k, i, h0, h1, hk => by
    obtain ⟨k, rfl⟩ : ∃ m, k = m + 1 := ⟨k - 1, by omega⟩
    have hw : wrap64 (i + 1) = i + 1 := by unfold wrap64; omega
    rw [tinderref19_Same.l0, if_pos (by omega), if_pos h0, if_pos (by omega), if_neg (by simp), hw]
    exact same19_go l hl d k (i + 1) (by omega) (by omega) (by omega)
theorem same19 (l : List S40) (hl : l.length < 1125899906842624) (k : Nat) (hk : l.length < k) : tinderref19_Same.f k l l = some true := by
  unfold tinderref19_Same.f
  rw [if_pos rfl]
  exact same19_go l hl l.length k 0 (Int.le_refl _) (by omega) hk
theorem decR_ok (m : List S40) (h : rightF m = true) : decR (some m) = (m, 0) := if_pos h
theorem decR_no (m : List S40) (h : ¬ rightF m = true) : decR (some m) = (([] : List S40), 15) := if_neg h
theorem decR_len (b : List Int) (hb : b.length ≤ 1048576) : (decR (decS [] b [])).1.length ≤ 1048576 := by
  cases h : decS [] b [] with
  | none => simp [decR]
  | some m =>
    have := (decS_fits b [] [] m (fun x hx => by cases hx) (by simp; omega) h).2
    unfold decR
    dsimp only
    split
    · simp at this ⊢; omega
    · simp
theorem cutL_first (c : Int) : ∀ (u v : List Int), (∀ a ∈ u, a ≠ c) → cutL c (u ++ c :: v) = some (u, v)
  | [], v, _ => by rw [List.nil_append, cutL, if_pos rfl]
  | x :: u, v, h => by
    rw [List.cons_append, cutL, if_neg (h x (List.mem_cons_self ..)), cutL_first c u v (fun a ha => h a (List.mem_cons_of_mem _ ha))]
    rfl
theorem decS_piece (x : S40) (hx : Clean x) (rest : List Int) (acc : List S40) : decS [] (encX x ++ rest) acc = decS [] rest (acc ++ [x]) := by
  have e : encX x ++ rest = (bytesOf x.f0 ++ 61 :: bytesOf x.f1) ++ 0 :: rest := by
    unfold encX
    simp only [List.append_assoc, List.cons_append, List.nil_append]
  have h0 : ∀ a ∈ bytesOf x.f0 ++ 61 :: bytesOf x.f1, a ≠ 0 := by
    intro a ha
    rcases List.mem_append.1 ha with ha | ha
    · exact (hx.1 a ha).1
    · rcases List.mem_cons.1 ha with rfl | ha
      · decide
      · exact hx.2.1 a ha
  rw [decS_cut, e, cutL_first 0 _ _ h0]
  dsimp only
  rw [List.nil_append, cutL_first 61 _ _ (fun a ha => (hx.1 a ha).2)]
  dsimp only
  rw [str_bytes, str_bytes]
theorem decS_enc : ∀ (l acc : List S40), (∀ x ∈ l, Clean x) → decS [] (encF l) acc = some (acc ++ l)
  | [], acc, _ => by simp [encF, decS]
  | x :: r, acc, h => by
    rw [show encF (x :: r) = encX x ++ encF r from rfl, decS_piece x (h x (List.mem_cons_self ..)), decS_enc r _ (fun y hy => h y (List.mem_cons_of_mem _ hy)), List.append_assoc]
    rfl
theorem bytesOf_B (s : ByteArray) : Bytes (bytesOf s) := by
  intro a ha
  obtain ⟨c, _, rfl⟩ := List.mem_map.1 ha
  have := c.toNat_lt
  omega
theorem Bytes_app {u v : List Int} (hu : Bytes u) (hv : Bytes v) : Bytes (u ++ v) := by
  intro a ha
  rcases List.mem_append.1 ha with ha | ha
  · exact hu a ha
  · exact hv a ha
theorem Bytes_one (c : Int) (h : 0 ≤ c ∧ c < 256) : Bytes [c] := by
  intro a ha
  obtain rfl := List.mem_singleton.1 ha
  exact h
theorem encF_B : ∀ l : List S40, Bytes (encF l)
  | [] => fun a ha => by cases ha
  | x :: r => Bytes_app (Bytes_app (Bytes_app (Bytes_app (bytesOf_B _) (Bytes_one _ (by decide))) (bytesOf_B _)) (Bytes_one _ (by decide))) (encF_B r)
end Go.Proofs.YtefhngadeimklaaDoor.Q
end
section
namespace Go.Proofs.YtefhngadeimklaaDoor.Q
open Go.RowKit Go.Proofs.YtefhngadeimklaaDoorW.PrintWords Go.Proofs.YtefhngadeimklaaDoorW.PrintLast Go.Proofs.YtefhngadeimklaaDoorW.PrintMore
set_option linter.unusedVariables false
set_option linter.unusedSimpArgs false

attribute [local go_sem] max2_int min2_int max_two min_two max_three min_three max_four min_four
/-! ### tinderref18_Sum: function 72 -/
def tinderref18_Sum.l0 : Nat → List Int → Int → Int → Option (Int)
  | 0, _, _, _ => none
  | k + 1, x6, x7, x8 => if x8 < (x6.length : Int) then (if 0 ≤ x8 then (tinderref18_Sum.l0 k x6 (Int.tmod (IntKind.u64.wrap ((IntKind.u64.wrap ((IntKind.u64.wrap (x7 - (Int.tmod x7 256))) + (Go.bits .xor .u64 (Int.tmod x7 256) (IntKind.u64.wrap (rd x6 x8))))) * 16777619)) 4294967296) (wrap64 (x8 + 1))) else (none)) else (some ((x7) % 4294967296))
def tinderref18_Sum.f (k : Nat) (a0 : Int) (l1 : List Int) : Option (Int) := (some (([a0, (Int.tmod (IntKind.u64.wrap (Int.tdiv (IntKind.u64.wrap ((l1.length : Int))) 256)) 256) % 256, (Int.tmod (IntKind.u64.wrap ((l1.length : Int))) 256) % 256] : List Int) : List Int)).bind fun y73001 => (if y73001.length + l1.length < 140737488355328 then (tinderref18_Sum.l0 k (y73001 ++ l1) 2166136261 0) else (none))
set_option maxHeartbeats 8000000 in
set_option maxRecDepth 100000 in
theorem tinderref18_Sum.calls (k : Nat) (a0 : Int) (A1 : Option Addr) (c1 : Nat) (l1 : List Int) (r : Int) (w : World) (hr1 : Kd.C (Kd.int .u8) w A1 l1.length l1) (hc1 : l1.length ≤ c1) (h : tinderref18_Sum.f k a0 l1 = some r) :
    Calls Tryd.prog 72 #[.int .u8 a0, .slice A1 l1.length c1] w fun e w' => e = .returned (.int .u32 r) ∧ Below w.heap.size w w' := by
  have HR1 := Aside0.mk hr1
  have HC1 := Aside0.mk hc1
  clear hr1 hc1
  have HB := Aside0.mk (Below.refl w.heap.size w)
  have H : ((some (([a0, (Int.tmod (IntKind.u64.wrap (Int.tdiv (IntKind.u64.wrap ((l1.length : Int))) 256)) 256) % 256, (Int.tmod (IntKind.u64.wrap ((l1.length : Int))) 256) % 256] : List Int) : List Int)).bind fun y73001 => (if y73001.length + l1.length < 140737488355328 then (tinderref18_Sum.l0 k (y73001 ++ l1) 2166136261 0) else (none))) = some r := h
  clear h
  obtain ⟨y73001, hy73001⟩ : ∃ y_ : List Int, y_ = (([a0, (Int.tmod (IntKind.u64.wrap (Int.tdiv (IntKind.u64.wrap ((l1.length : Int))) 256)) 256) % 256, (Int.tmod (IntKind.u64.wrap ((l1.length : Int))) 256) % 256] : List Int)) := ⟨_, rfl⟩
  replace H : (if y73001.length + l1.length < 140737488355328 then (tinderref18_Sum.l0 k (y73001 ++ l1) 2166136261 0) else (none)) = some r := by first | (rw [hy73001]; with_reducible exact H) | (have H2_ := (Option.bind_some _ _).symm.trans H; rw [hy73001]; with_reducible exact H2_) | (have H2_ := (Option.bind_some _ _).symm.trans H; with_reducible exact H2_) | with_reducible exact H | (rw [hy73001]; exact H) | exact H
  have Ny73001 := Aside0.mk hy73001
  clear hy73001
  by_cases c3 : y73001.length + l1.length < 140737488355328
  · rw [if_pos c3] at H
    have LMc3 := Aside0.mk c3
    clear c3
    obtain ⟨y73004, hy73004⟩ : ∃ y_ : List Int, y_ = (y73001 ++ l1) := ⟨_, rfl⟩
    replace H : (tinderref18_Sum.l0 k y73004 2166136261 0) = some r := by first | (rw [hy73004]; with_reducible exact H) | (have H2_ := (Option.bind_some _ _).symm.trans H; rw [hy73004]; with_reducible exact H2_) | (have H2_ := (Option.bind_some _ _).symm.trans H; with_reducible exact H2_) | with_reducible exact H | (rw [hy73004]; exact H) | exact H
    have Ny73004 := Aside0.mk hy73004
    clear hy73004
    have H' := Aside0.mk H
    clear H
    go_enter Tryd.func72, Tryd.ntmps72
    go_wp2_with (first | ((with_reducible refine gate_dst (N := 21) rfl ?_); refine Kd.R_lit (Kd.int .u8) _ 5 ?hg (N := 21) ?hd (xs := ([a0, (Int.tmod (IntKind.u64.wrap (Int.tdiv (IntKind.u64.wrap ((l1.length : Int))) 256)) 256) % 256, (Int.tmod (IntKind.u64.wrap ((l1.length : Int))) 256) % 256] : List Int)) (inner := [.int .u8 a0, .int .u8 ((Int.tmod (IntKind.u64.wrap (Int.tdiv (IntKind.u64.wrap ((l1.length : Int))) 256)) 256) % 256), .int .u8 ((Int.tmod (IntKind.u64.wrap ((l1.length : Int))) 256) % 256)]) (ok := fun _ => True) (okp := fun _ => True) ?hr ?hp (fun _ hk => hk) trivial (Below.refl _ _) (Nat.le_refl _) (by simp) ?_; (case hd => rfl); (case hg => rfl); (case hr => first | (go_simp; done) | (go_simp; rfl)); (case hp => exact (Reps.one (show Kd.M (Kd.int .u8) _ _ _ a0 [.int .u8 a0] from rfl) (Reps.one (show Kd.M (Kd.int .u8) _ _ _ ((Int.tmod (IntKind.u64.wrap (Int.tdiv (IntKind.u64.wrap ((l1.length : Int))) 256)) 256) % 256) [.int .u8 ((Int.tmod (IntKind.u64.wrap (Int.tdiv (IntKind.u64.wrap ((l1.length : Int))) 256)) 256) % 256)] from rfl) (Reps.one (show Kd.M (Kd.int .u8) _ _ _ ((Int.tmod (IntKind.u64.wrap ((l1.length : Int))) 256) % 256) [.int .u8 ((Int.tmod (IntKind.u64.wrap ((l1.length : Int))) 256) % 256)] from rfl) (Reps.none _ _))))); intro v73002 w4 ho5 hb hg_ hnew_; clear hg_ hnew_; (first | rw [← Ny73001.out] at ho5 | (simp only [Int.reduceToNat] at ho5; rw [← Ny73001.out] at ho5)); have n0_ := Aside0.mk (Kd.R_lower ho5 (below_size (by repeat (first | (with_reducible first | exact HB.out | apply below_alloc | apply pw_below_drewN | apply below_drew1) | exact HB.out)))); have n1_ := Aside0.mk (below_step (by repeat (first | (with_reducible first | exact HB.out | apply below_alloc | apply pw_below_drewN | apply below_drew1) | exact HB.out)) hb); clear HB; have HO73003 := n0_; have HB := n1_; clear n0_ n1_; clear hb ho5) | ((with_reducible refine gate_builtin (b := .append) (xs := #[.tmp 22, .tmp 23]) rfl ?_); at_builtin; refine Kd.R_append_rows (Kd.int .u8) (w0 := w) w.heap.size rfl (.tmp 22) (.tmp 23) 42 5 (.int .u8 0) 1 rfl Tryd.underlying42 info5 rfl (by decide) (by omega) v73002 y73001 l1 _ _ _ (fun _ => True) (fun _ => False) rfl rfl ?aO ?aR (fun _ _ h => h) (fun _ h => h.elim) ?aF ?aB ?aS ?aL ?_; (case aR => repeat (first | exact (Kd.C_below HR1.out HB.out) | (with_reducible refine Kd.C_alloc ?_ _) | (with_reducible refine Kd.C_drewN ?_ _) | (with_reducible refine Kd.C_drew ?_))); (case aB => exact (by repeat (first | (with_reducible first | exact HB.out | apply below_alloc | apply pw_below_drewN | apply below_drew1) | exact HB.out))); (case aF => exact (fun _ _ => trivial)); (case aO => exact (by (with_reducible repeat (first | apply Kd.R_alloc | apply Kd.R_drewN | apply Kd.R_drew)); exact HO73003.out)); (case aS => exact (below_size (by repeat (first | (with_reducible first | exact HB.out | apply below_alloc | apply pw_below_drewN | apply below_drew1) | exact HB.out)))); (case aL => have := LMc3.out; omega); intro v73005 w6 ho hb hg hat; rw [← Ny73004.out] at ho; have n0_ := Aside0.mk (hb); have n1_ := Aside0.mk (ho); clear HB; clear HO73003; have HB := n0_; have HO73006 := n1_; clear n0_ n1_; clear ho hb hg hat))
    go_loopg [7, 8] k (fun kq v7 v8 w' => ∃ (x7_1 : Int) (x8_1 : Int), v7 = .int .u64 x7_1 ∧ v8 = .int .i64 x8_1 ∧ Aside0 (tinderref18_Sum.l0 kq y73004 x7_1 x8_1 = some r) ∧ Aside0 (kq ≤ k) ∧ Aside0 (Kd.R (Kd.int .u8) 5 w' w.heap.size (fun _ => True) v73005 y73004) ∧ Aside0 (Below w.heap.size w w'))
    case atStart => exact ⟨(2166136261), (0), (by first | rfl | (simp; done) | (simp [*]; done)), (by first | rfl | (simp; done) | (simp [*]; done)), H', ⟨Nat.le_refl _⟩, ⟨by (with_reducible repeat (first | apply Kd.R_alloc | apply Kd.R_drewN | apply Kd.R_drew)); exact HO73006.out⟩, ⟨by repeat (first | (with_reducible first | exact HB.out | apply below_alloc | apply pw_below_drewN | apply below_drew1) | exact HB.out)⟩⟩
    case round =>
      clear H'
      try clear c1
      try clear p2
      try clear c3
      obtain ⟨x7_1, x8_1, rfl, rfl, HA, HK1, HO_6, HB⟩ := hrel
      cases gk with
      | zero => exact absurd HA.out (by simp [tinderref18_Sum.l0])
      | succ k1 =>
        have H := HA.out
        clear HA
        simp only [tinderref18_Sum.l0] at H
        by_cases c7 : x8_1 < (y73004.length : Int)
        · rw [if_pos c7] at H
          have c7b0 : decide (x8_1 < (y73004.length : Int)) = true := decide_eq_true c7
          clear c7
          by_cases c8 : 0 ≤ x8_1
          · rw [if_pos c8] at H
            have c8b0 : decide (0 ≤ x8_1) = true := decide_eq_true c8
            clear c8
            have H' := Aside0.mk H
            clear H
            obtain ⟨Ao9, co9, eo9⟩ := Kd.R_slice HO_6.out
            subst eo9
            have p73007 : 0 ≤ (x8_1 : Int) := of_decide_eq_true (by first | (with_reducible assumption) | assumption)
            have q73007 : x8_1 < (y73004.length : Int) := of_decide_eq_true (by first | (with_reducible assumption) | assumption)
            obtain ⟨ad73007, e73007, hx73007_0⟩ := Kd.at_int (Kd.R_reads' HO_6.out).2.2 x8_1 p73007 q73007
            cases e73007
            replace p73007 := eq_true p73007
            replace q73007 := eq_true q73007
            go_wp2
            go_roundg k1
            case measure => have := HK1.out; omega
            case rel => exact ⟨(Int.tmod (IntKind.u64.wrap ((IntKind.u64.wrap ((IntKind.u64.wrap (x7_1 - (Int.tmod x7_1 256))) + (Go.bits .xor .u64 (Int.tmod x7_1 256) (IntKind.u64.wrap (rd y73004 x8_1))))) * 16777619)) 4294967296), (wrap64 (x8_1 + 1)), (by first | rfl | (simp; done) | (simp [*]; done)), (by first | rfl | (simp; done) | (simp [*]; done)), H', ⟨by have := HK1.out; omega⟩, ⟨by (with_reducible repeat (first | apply Kd.R_alloc | apply Kd.R_drewN | apply Kd.R_drew)); exact HO_6.out⟩, ⟨by repeat (first | (with_reducible first | exact HB.out | apply below_alloc | apply pw_below_drewN | apply below_drew1) | exact HB.out)⟩⟩
          · rw [if_neg c8] at H
            exact absurd H (by simp)
        · rw [if_neg c7] at H
          have c7b0 : decide (x8_1 < (y73004.length : Int)) = false := decide_eq_false c7
          clear c7
          obtain rfl := Option.some.inj H
          obtain ⟨Ao10, co10, eo10⟩ := Kd.R_slice HO_6.out
          subst eo10
          go_wp2
          go_ret
          exact ⟨by first | rfl | (simp [errW_none, errW_some] <;> rfl) | (simp [*, errW_none, errW_some] <;> rfl), by repeat (first | (with_reducible first | exact HB.out | apply below_alloc | apply pw_below_drewN | apply below_drew1) | exact HB.out)⟩
  · rw [if_neg c3] at H
    exact absurd H (by simp)

end Go.Proofs.YtefhngadeimklaaDoor.Q
end
section
namespace Go.Proofs.YtefhngadeimklaaDoor.Q
open Go.RowKit Go.Proofs.YtefhngadeimklaaDoorW.PrintWords Go.Proofs.YtefhngadeimklaaDoorW.PrintLast Go.Proofs.YtefhngadeimklaaDoorW.PrintMore
def stepF (h c : Int) : Int := bits .xor .u32 h (c % 4294967296) * 16777619 % 4294967296
def sumF (g : Int) (l : List Int) : Int := l.foldl stepF (stepF (stepF (stepF 2166136261 g) ((l.length : Int) / 256 % 256)) ((l.length : Int) % 256))
set_option maxHeartbeats 1000000 in
theorem step_calls (c h : Int) (b : Nat) (w : World) (hh : w.heap[b]? = some (.cells #[.int .u32 h] 71 (0, 0))) :
    Calls Tryd.prog 83 #[.int .u8 c, .pointer (some ⟨b, 0, none⟩)] w fun e w' => e = .returned (.tuple #[]) ∧ w' = w.setCell ⟨b, 0, none⟩ (.int .u32 (stepF h c)) := by
  have hz : w.cell? ⟨b, 0, none⟩ = some (.int .u32 h) := (blk_cell hh 0).trans rfl
  have hf := blk_frozen hh 0
  go_enter Tryd.func83, Tryd.ntmps83
  go_wp2
  go_end0
  exact ⟨rfl, rfl⟩
/-- What nvram.Sum answers. -/
def nvram_Sum.f (g : Int) (l : List Int) : Option Int := some (sumF g l)
set_option maxHeartbeats 4000000 in
set_option maxRecDepth 100000 in
theorem nvram_Sum.calls (g : Int) (A1 : Option Addr) (c1 : Nat) (l1 : List Int) (r : Int) (w : World) (hr1 : Kd.C (Kd.int .u8) w A1 l1.length l1) (hc1 : l1.length ≤ c1) (h : nvram_Sum.f g l1 = some r) :
    Calls Tryd.prog 69 #[.int .u8 g, .slice A1 l1.length c1] w fun e w' => e = .returned (.int .u32 r) ∧ Below w.heap.size w w' := by
  obtain rfl := Option.some.inj h
  obtain ⟨h0, hh0⟩ : ∃ h0, h0 = stepF (stepF (stepF 2166136261 g) ((l1.length : Int) / 256 % 256)) ((l1.length : Int) % 256) := ⟨_, rfl⟩
  have HH0 := Aside0.mk hh0
  have HR1 := Aside0.mk hr1
  have HC1 := Aside0.mk hc1
  clear hr1 hc1 h hh0
  go_enter Tryd.func69, Tryd.ntmps69
  go_wp2_with (first
    | ((with_reducible refine gate_dst (N := 5) rfl ?_); refine box_event ?hg (N := 5) ?hd (cs := #[.int .u32 0]) (t := 71) ?hr ?_; (case hd => rfl); (case hg => rfl); (case hr => first | (go_simp; done) | (go_simp; rfl)); intro gb hg w1 hbox hb; have BK := Aside0.mk hbox; have HB := Aside0.mk hb; have GB := Aside0.mk (show w.heap.size ≤ gb from hg ▸ Nat.le_refl _); clear hbox hb hg; have hz := (blk_cell BK.out 0).trans rfl; have hf := blk_frozen BK.out 0)
    | (go_at_call 83; refine (step_calls _ _ gb _ (blk_put BK.out 0 _ rfl)).mono ?_; rintro e w2 ⟨rfl, he⟩; have BL := Aside0.mk (show w2.heap[gb]? = _ from he ▸ blk_put (blk_put BK.out 0 _ rfl) 0 _ rfl); have HB2 := Aside0.mk (show Below w.heap.size w w2 from he ▸ below_set (below_set HB.out GB.out) GB.out); clear he BK HB hz hf; have HB := HB2; clear HB2)
    | (go_at_call 83; refine (step_calls _ _ gb _ BL.out).mono ?_; rintro e w2 ⟨rfl, he⟩; have BM := Aside0.mk (show w2.heap[gb]? = _ from he ▸ blk_put BL.out 0 _ rfl); have HB2 := Aside0.mk (show Below w.heap.size w w2 from he ▸ below_set HB.out GB.out); clear he BL HB; have HB := HB2; have BL := BM; clear HB2 BM))
  rw [← HH0.out] at BL
  go_loopg [26] l1.length (fun kq v26 w' => ∃ i : Int, v26 = .int .i64 i ∧ Aside0 (0 ≤ i ∧ i + kq = l1.length) ∧ Aside0 (w'.heap[gb]? = some (.cells #[.int .u32 ((l1.take i.toNat).foldl stepF h0)] 71 (0, 0))) ∧ Aside0 (Below w.heap.size w w'))
  case atStart => exact ⟨0, rfl, ⟨by omega, by omega⟩, ⟨by simpa using BL.out⟩, HB⟩
  case round =>
    clear BL HB
    obtain ⟨i, rfl, HI, BL, HB⟩ := hrel
    cases gk with
    | zero =>
      have hlt : decide (i < (l1.length : Int)) = false := decide_eq_false (by have := HI.out; omega)
      have hbl := BL.out
      rw [List.take_of_length_le (by have := HI.out; omega)] at hbl
      have hz := (blk_cell hbl 0).trans rfl
      go_wp2
      go_ret
      exact ⟨by rw [show sumF g l1 = l1.foldl stepF h0 from by unfold sumF; rw [← HH0.out]]; rfl, HB.out⟩
    | succ k1 =>
      have hi := HI.out
      have hlt : decide (i < (l1.length : Int)) = true := decide_eq_true (by omega)
      have hm := Kd.C_max HR1.out
      have hwr : IntKind.i64.wrap (i + 1) = i + 1 := (i64_w _).trans (by unfold wrap64; omega)
      obtain ⟨ad, ea, hx0⟩ := Kd.at_int (Kd.C_below HR1.out HB.out) i (by omega) (by omega)
      cases ea
      have p1 : (0 ≤ i) = True := eq_true (by omega)
      have p2 : (i < (l1.length : Int)) = True := eq_true (by omega)
      have hst : stepF ((l1.take i.toNat).foldl stepF h0) (rd l1 i) = (l1.take (i + 1).toNat).foldl stepF h0 := by
        rw [show (i + 1).toNat = i.toNat + 1 by omega, List.take_succ_eq_append_getElem (show i.toNat < l1.length by omega), List.foldl_append]
        simp [rd, List.getD_eq_getElem?_getD, List.getElem?_eq_getElem (show i.toNat < l1.length by omega)]
      have HST := Aside0.mk hst
      clear hi hm hst
      go_wp2_with (first
        | (go_at_call 83; refine (step_calls _ _ gb _ BL.out).mono ?_; rintro e w2 ⟨rfl, he⟩; have BM := Aside0.mk (show w2.heap[gb]? = _ from he ▸ blk_put BL.out 0 _ rfl); have HB2 := Aside0.mk (show Below w.heap.size w w2 from he ▸ below_set HB.out GB.out); clear he hx0))
      rw [HST.out] at BM
      go_roundg k1
      case measure => omega
      case rel => exact ⟨i + 1, rfl, ⟨by have := HI.out; omega, by have := HI.out; omega⟩, BM, HB2⟩
theorem wrap_u32 (n : Int) : IntKind.u32.wrap n = n % 4294967296 := by simp [IntKind.wrap, IntKind.bits, IntKind.signed]
theorem bits_xor_u32_nat (a b : Nat) (ha : a < 4294967296) (hb : b < 4294967296) : bits BinOp.xor IntKind.u32 (a : Int) (b : Int) = ((a ^^^ b : Nat) : Int) := by
  have hx : a ^^^ b < 2 ^ 32 := Nat.xor_lt_two_pow (by omega) (by omega)
  have h1 : (BitVec.ofInt 32 (a : Int)).toNat = a := by
    rw [BitVec.ofInt_natCast, BitVec.toNat_ofNat]; exact Nat.mod_eq_of_lt (by omega)
  have h2 : (BitVec.ofInt 32 (b : Int)).toNat = b := by
    rw [BitVec.ofInt_natCast, BitVec.toNat_ofNat]; exact Nat.mod_eq_of_lt (by omega)
  show IntKind.u32.wrap ((BitVec.ofInt 32 (a : Int) ^^^ BitVec.ofInt 32 (b : Int)).toNat : Int) = _
  rw [BitVec.toNat_xor, h1, h2, wrap_u32]
  omega
theorem nv_wrap_u64_id (x : Int) (h1 : 0 ≤ x) (h2 : x < 18446744073709551616) : IntKind.u64.wrap x = x := by
  rw [IntKind.wrap_u64]; omega
theorem xor_low (h c : Nat) (hc : c < 256) : h ^^^ c = h - h % 256 + ((h % 256) ^^^ c) := by
  have hx : (h % 256) ^^^ c < 2 ^ 8 := Nat.xor_lt_two_pow (by omega) (by omega)
  have e : h - h % 256 = 2 ^ 8 * (h / 256) := by omega
  rw [e]
  apply Nat.eq_of_testBit_eq
  intro j
  rw [Nat.testBit_two_pow_mul_add _ hx, Nat.testBit_xor]
  have e2 : h = 2 ^ 8 * (h / 256) + h % 256 := by omega
  have e3 : h.testBit j = if j < 8 then (h % 256).testBit j else (h / 256).testBit (j - 8) := by
    conv => lhs; rw [e2]
    exact Nat.testBit_two_pow_mul_add _ (by omega) _
  rw [e3]
  split
  · rw [Nat.testBit_xor]
  · rw [Nat.testBit_lt_two_pow (show c < 2 ^ j from Nat.lt_of_lt_of_le (show c < 2 ^ 8 by omega) (Nat.pow_le_pow_right (by decide) (by omega)))]
    simp
theorem stepF_range (h c : Int) : 0 ≤ stepF h c ∧ stepF h c < 4294967296 := by unfold stepF; omega
theorem step_ref (h c : Int) (h0 : 0 ≤ h ∧ h < 4294967296) (hc : 0 ≤ c ∧ c < 256) : Int.tmod (IntKind.u64.wrap ((IntKind.u64.wrap ((IntKind.u64.wrap (h - (Int.tmod h 256))) + (Go.bits .xor .u64 (Int.tmod h 256) (IntKind.u64.wrap c)))) * 16777619)) 4294967296 = stepF h c := by
  obtain ⟨a, rfl⟩ := Int.eq_ofNat_of_zero_le h0.1
  obtain ⟨b, rfl⟩ := Int.eq_ofNat_of_zero_le hc.1
  have e1 : Int.tmod (a : Int) 256 = ((a % 256 : Nat) : Int) := by rw [Int.tmod_eq_emod_of_nonneg (by omega)]; omega
  obtain ⟨x, hx⟩ : ∃ x, x = (a % 256) ^^^ b := ⟨_, rfl⟩
  have hx2 : x < 2 ^ 8 := by rw [hx]; exact Nat.xor_lt_two_pow (by omega) (by omega)
  have h1 : IntKind.u64.wrap ((a : Int) - ((a % 256 : Nat) : Int)) = ((a - a % 256 : Nat) : Int) := by rw [nv_wrap_u64_id _ (by omega) (by omega)]; omega
  have h2 : IntKind.u64.wrap (b : Int) = (b : Int) := nv_wrap_u64_id _ (by omega) (by omega)
  have h3 : IntKind.u64.wrap (((a - a % 256 : Nat) : Int) + (x : Int)) = ((a - a % 256 + x : Nat) : Int) := by rw [nv_wrap_u64_id _ (by omega) (by omega)]; omega
  have h4 : IntKind.u64.wrap (((a - a % 256 + x : Nat) : Int) * 16777619) = ((a - a % 256 + x : Nat) : Int) * 16777619 := nv_wrap_u64_id _ (by omega) (by omega)
  rw [e1, h1, h2, bits_xor_u64_nat _ _ (by omega) (by omega), ← hx, h3, h4, Int.tmod_eq_emod_of_nonneg (by omega)]
  unfold stepF
  have e2 : (b : Int) % 4294967296 = (b : Int) := by omega
  rw [e2, bits_xor_u32_nat _ _ (by omega) (by omega), xor_low a b (by omega), ← hx]
theorem ref_go (l : List Int) (hl : l.length ≤ 1000000000000000) (hr : ∀ a ∈ l, 0 ≤ a ∧ a < 256) (d : Nat) : ∀ (k : Nat) (h i : Int), 0 ≤ i → i + d = l.length → d < k → 0 ≤ h ∧ h < 4294967296 → tinderref18_Sum.l0 k l h i = some ((l.drop i.toNat).foldl stepF h) := by
  induction d with
  | zero =>
    intro k h i h0 h1 hk hh
    obtain ⟨k, rfl⟩ : ∃ m, k = m + 1 := ⟨k - 1, by omega⟩
    simp only [tinderref18_Sum.l0]
    rw [if_neg (by omega), List.drop_eq_nil_of_le (by omega)]
    simp only [List.foldl_nil, Option.some.injEq]
    omega
  | succ d ih =>
    intro k h i h0 h1 hk hh
    obtain ⟨k, rfl⟩ : ∃ m, k = m + 1 := ⟨k - 1, by omega⟩
    have hil : i.toNat < l.length := by omega
    have hrd : rd l i = l[i.toNat] := by simp [rd, List.getD_eq_getElem?_getD, List.getElem?_eq_getElem hil]
    have e1 : wrap64 (i + 1) = i + 1 := by unfold wrap64; omega
    simp only [tinderref18_Sum.l0]
    rw [if_pos (by omega), if_pos h0, hrd, step_ref h _ hh (hr _ (List.getElem_mem hil)), e1, ih k _ (i + 1) (by omega) (by omega) (by omega) (stepF_range _ _), List.drop_eq_getElem_cons hil, List.foldl_cons, show (i + 1).toNat = i.toNat + 1 by omega]
theorem ref18_Sum_eq (k : Nat) (g : Int) (l : List Int) (hg : 0 ≤ g ∧ g < 256) (hr : ∀ a ∈ l, 0 ≤ a ∧ a < 256) (hl : l.length ≤ 140737488351232) (hk : l.length + 3 < k) : tinderref18_Sum.f k g l = some (sumF g l) := by
  unfold tinderref18_Sum.f
  have e1 : Int.tmod (IntKind.u64.wrap (Int.tdiv (IntKind.u64.wrap ((l.length : Int))) 256)) 256 % 256 = (l.length : Int) / 256 % 256 := by
    rw [nv_wrap_u64_id (l.length : Int) (by omega) (by omega), Int.tdiv_eq_ediv_of_nonneg (by omega), nv_wrap_u64_id _ (by omega) (by omega), Int.tmod_eq_emod_of_nonneg (by omega)]
    omega
  have e2 : (Int.tmod (IntKind.u64.wrap ((l.length : Int))) 256) % 256 = (l.length : Int) % 256 := by
    rw [nv_wrap_u64_id (l.length : Int) (by omega) (by omega), Int.tmod_eq_emod_of_nonneg (by omega)]
    omega
  rw [e1, e2, Option.bind_some, if_pos (by simp; omega)]
  rw [ref_go _ (by simp; omega) (fun a ha => ?_) (l.length + 3) k _ 0 (by omega) (by simp; omega) hk (by decide)]
  · simp only [Int.toNat_zero, List.drop_zero, List.cons_append, List.nil_append, List.foldl_cons, sumF]
  · simp only [List.cons_append, List.nil_append, List.mem_cons] at ha
    rcases ha with rfl | rfl | rfl | ha
    · exact hg
    · omega
    · omega
    · exact hr a ha
end Go.Proofs.YtefhngadeimklaaDoor.Q
end
section
namespace Go.Proofs.YtefhngadeimklaaDoor.Q
open Go.RowKit Go.Proofs.YtefhngadeimklaaDoorW.PrintWords Go.Proofs.YtefhngadeimklaaDoorW.PrintLast Go.Proofs.YtefhngadeimklaaDoorW.PrintMore
set_option linter.unusedVariables false
set_option linter.unusedSimpArgs false

attribute [local go_sem] max2_int min2_int max_two min_two max_three min_three max_four min_four
/-! ### nvram_four: function 68 -/
def nvram_four.f (a0 : Int) : Option (List Int) := some (([(a0 / 16777216) % 256, (a0 / 65536) % 256, (a0 / 256) % 256, (a0) % 256] : List Int))
set_option maxHeartbeats 8000000 in
set_option maxRecDepth 100000 in
theorem nvram_four.calls (a0 : Int) (r : List Int) (w : World) (h : nvram_four.f a0 = some r) :
    Calls Tryd.prog 68 #[.int .u32 a0] w fun e w' => ∃ v0_ : Value, e = .returned (v0_) ∧ Kd.R (Kd.int .u8) 5 w' w.heap.size (fun _ => True) v0_ r ∧ Below w.heap.size w w' := by
  have HB := Aside0.mk (Below.refl w.heap.size w)
  have H : (some (([(a0 / 16777216) % 256, (a0 / 65536) % 256, (a0 / 256) % 256, (a0) % 256] : List Int))) = some r := h
  clear h
  obtain ⟨y69001, hy69001⟩ : ∃ y_ : List Int, y_ = (([(a0 / 16777216) % 256, (a0 / 65536) % 256, (a0 / 256) % 256, (a0) % 256] : List Int)) := ⟨_, rfl⟩
  replace H : (some y69001) = some r := by first | (rw [hy69001]; with_reducible exact H) | (have H2_ := (Option.bind_some _ _).symm.trans H; rw [hy69001]; with_reducible exact H2_) | (have H2_ := (Option.bind_some _ _).symm.trans H; with_reducible exact H2_) | with_reducible exact H | (rw [hy69001]; exact H) | exact H
  have Ny69001 := Aside0.mk hy69001
  clear hy69001
  obtain rfl := Option.some.inj H
  go_enter Tryd.func68, Tryd.ntmps68
  go_wp2_with (first | ((with_reducible refine gate_dst (N := 14) rfl ?_); refine Kd.R_lit (Kd.int .u8) _ 5 ?hg (N := 14) ?hd (xs := ([(a0 / 16777216) % 256, (a0 / 65536) % 256, (a0 / 256) % 256, (a0) % 256] : List Int)) (inner := [.int .u8 ((a0 / 16777216) % 256), .int .u8 ((a0 / 65536) % 256), .int .u8 ((a0 / 256) % 256), .int .u8 ((a0) % 256)]) (ok := fun _ => True) (okp := fun _ => True) ?hr ?hp (fun _ hk => hk) trivial (Below.refl _ _) (Nat.le_refl _) (by simp) ?_; (case hd => rfl); (case hg => rfl); (case hr => first | (go_simp; done) | (go_simp; rfl)); (case hp => exact (Reps.one (show Kd.M (Kd.int .u8) _ _ _ ((a0 / 16777216) % 256) [.int .u8 ((a0 / 16777216) % 256)] from rfl) (Reps.one (show Kd.M (Kd.int .u8) _ _ _ ((a0 / 65536) % 256) [.int .u8 ((a0 / 65536) % 256)] from rfl) (Reps.one (show Kd.M (Kd.int .u8) _ _ _ ((a0 / 256) % 256) [.int .u8 ((a0 / 256) % 256)] from rfl) (Reps.one (show Kd.M (Kd.int .u8) _ _ _ ((a0) % 256) [.int .u8 ((a0) % 256)] from rfl) (Reps.none _ _)))))); intro v69002 w2 ho3 hb hg_ hnew_; clear hg_ hnew_; (first | rw [← Ny69001.out] at ho3 | (simp only [Int.reduceToNat] at ho3; rw [← Ny69001.out] at ho3)); have n0_ := Aside0.mk (Kd.R_lower ho3 (below_size (by repeat (first | (with_reducible first | exact HB.out | apply below_alloc | apply pw_below_drewN | apply below_drew1) | exact HB.out)))); have n1_ := Aside0.mk (below_step (by repeat (first | (with_reducible first | exact HB.out | apply below_alloc | apply pw_below_drewN | apply below_drew1) | exact HB.out)) hb); clear HB; have HO69003 := n0_; have HB := n1_; clear n0_ n1_; clear hb ho3))
  go_ret
  exact ⟨_, by first | rfl | (simp [errW_none, errW_some] <;> rfl) | (simp [*, errW_none, errW_some] <;> rfl), by (with_reducible repeat (first | apply Kd.R_alloc | apply Kd.R_drewN | apply Kd.R_drew)); exact HO69003.out, by repeat (first | (with_reducible first | exact HB.out | apply below_alloc | apply pw_below_drewN | apply below_drew1) | exact HB.out)⟩

end Go.Proofs.YtefhngadeimklaaDoor.Q
end
section
namespace Go.Proofs.YtefhngadeimklaaDoor.Q
open Go.RowKit Go.Proofs.YtefhngadeimklaaDoorW.PrintWords Go.Proofs.YtefhngadeimklaaDoorW.PrintLast Go.Proofs.YtefhngadeimklaaDoorW.PrintMore
set_option linter.unusedVariables false
set_option linter.unusedSimpArgs false

attribute [local go_sem] max2_int min2_int max_two min_two max_three min_three max_four min_four
/-! ### slices_Equal_byte_byte: function 84 -/
def slices_Equal_byte_byte.l0 : Nat → List Int → List Int → Int → Int → Option (Bool)
  | 0, _, _, _, _ => none
  | k + 1, x0, x1, x12, x13 => if x13 < x12 then (if 0 ≤ x13 then (if x13 < (x0.length : Int) then (if x13 < (x1.length : Int) then (if (rd x0 x13) = (rd x1 x13) then (slices_Equal_byte_byte.l0 k x0 x1 x12 (wrap64 (x13 + 1))) else (some false)) else (none)) else (none)) else (none)) else (some true)
def slices_Equal_byte_byte.f (k : Nat) (l0 : List Int) (l1 : List Int) : Option (Bool) := if (l0.length : Int) = (l1.length : Int) then (slices_Equal_byte_byte.l0 k l0 l1 (l0.length : Int) 0) else (some false)
set_option maxHeartbeats 8000000 in
set_option maxRecDepth 100000 in
theorem slices_Equal_byte_byte.calls (k : Nat) (A0 : Option Addr) (c0 : Nat) (l0 : List Int) (A1 : Option Addr) (c1 : Nat) (l1 : List Int) (r : Bool) (w : World) (hr0 : Kd.C (Kd.int .u8) w A0 l0.length l0) (hc0 : l0.length ≤ c0) (hr1 : Kd.C (Kd.int .u8) w A1 l1.length l1) (hc1 : l1.length ≤ c1) (h : slices_Equal_byte_byte.f k l0 l1 = some r) :
    Calls Tryd.prog 84 #[.slice A0 l0.length c0, .slice A1 l1.length c1] w fun e w' => e = .returned (.bool r) ∧ Drawn0 w w' := by
  have HR0 := Aside0.mk hr0
  have HC0 := Aside0.mk hc0
  clear hr0 hc0
  have HR1 := Aside0.mk hr1
  have HC1 := Aside0.mk hc1
  clear hr1 hc1
  have H : (if (l0.length : Int) = (l1.length : Int) then (slices_Equal_byte_byte.l0 k l0 l1 (l0.length : Int) 0) else (some false)) = some r := h
  clear h
  by_cases c3 : (l0.length : Int) = (l1.length : Int)
  · rw [if_pos c3] at H
    have c3b0 : ((l0.length : Int) == (l1.length : Int)) = true := beq_iff_eq.mpr c3
    have c3b1 : ((l0.length : Int) != (l1.length : Int)) = false := bne_eq_false_iff_eq.mpr c3
    have c3b2 : (l0.length == l1.length) = true := by first | simpa using c3 | (simp at c3 ⊢; omega)
    clear c3
    have H' := Aside0.mk H
    clear H
    go_enter Tryd.func84, Tryd.ntmps84
    go_wp2
    repeat (go_quiet (fail); try go_wp2)
    go_loopg [13] k (fun kq v13 w' => ∃ (x13_1 : Int), v13 = .int .i64 x13_1 ∧ Aside0 (slices_Equal_byte_byte.l0 kq l0 l1 (l0.length : Int) x13_1 = some r) ∧ Aside0 (kq ≤ k) ∧ Drawn0 w w')
    case atStart => exact ⟨(0), (by first | rfl | (simp; done) | (simp [*]; done)), H', ⟨Nat.le_refl _⟩, by repeat (first | exact Drawn0.refl _ | apply Drawn0.step)⟩
    case round =>
      clear H'
      try clear c1
      try clear p2
      try clear c3
      try clear c3b0
      try clear c3b1
      try clear c3b2
      obtain ⟨x13_1, rfl, HA, HK1, ⟨m1, rfl⟩⟩ := hrel
      cases gk with
      | zero => exact absurd HA.out (by simp [slices_Equal_byte_byte.l0])
      | succ k1 =>
        have H := HA.out
        clear HA
        simp only [slices_Equal_byte_byte.l0] at H
        by_cases c4 : x13_1 < (l0.length : Int)
        · rw [if_pos c4] at H
          have c4b0 : decide (x13_1 < (l0.length : Int)) = true := decide_eq_true c4
          clear c4
          by_cases c5 : 0 ≤ x13_1
          · rw [if_pos c5] at H
            have c5b0 : decide (0 ≤ x13_1) = true := decide_eq_true c5
            clear c5
            by_cases c6 : x13_1 < (l0.length : Int)
            · rw [if_pos c6] at H
              have c6b0 : decide (x13_1 < (l0.length : Int)) = true := decide_eq_true c6
              clear c6
              by_cases c7 : x13_1 < (l1.length : Int)
              · rw [if_pos c7] at H
                have c7b0 : decide (x13_1 < (l1.length : Int)) = true := decide_eq_true c7
                clear c7
                by_cases c8 : (rd l0 x13_1) = (rd l1 x13_1)
                · rw [if_pos c8] at H
                  have c8b0 : ((rd l0 x13_1) == (rd l1 x13_1)) = true := beq_iff_eq.mpr c8
                  have c8b1 : ((rd l0 x13_1) != (rd l1 x13_1)) = false := bne_eq_false_iff_eq.mpr c8
                  clear c8
                  have H' := Aside0.mk H
                  clear H
                  have p85001 : 0 ≤ (x13_1 : Int) := of_decide_eq_true (by first | (with_reducible assumption) | assumption)
                  have q85001 : x13_1 < (l0.length : Int) := of_decide_eq_true (by first | (with_reducible assumption) | assumption)
                  obtain ⟨ad85001, e85001, hx85001_0⟩ := Kd.at_int HR0.out x13_1 p85001 q85001
                  cases e85001
                  replace p85001 := eq_true p85001
                  replace q85001 := eq_true q85001
                  have p85002 : 0 ≤ (x13_1 : Int) := of_decide_eq_true (by first | (with_reducible assumption) | assumption)
                  have q85002 : x13_1 < (l1.length : Int) := of_decide_eq_true (by first | (with_reducible assumption) | assumption)
                  obtain ⟨ad85002, e85002, hx85002_0⟩ := Kd.at_int HR1.out x13_1 p85002 q85002
                  cases e85002
                  replace p85002 := eq_true p85002
                  replace q85002 := eq_true q85002
                  go_wp2
                  repeat (go_quiet (fail); try go_wp2)
                  go_roundg k1
                  case measure => have := HK1.out; omega
                  case rel => exact ⟨(wrap64 (x13_1 + 1)), (by first | rfl | (simp; done) | (simp [*]; done)), H', ⟨by have := HK1.out; omega⟩, by repeat (first | exact Drawn0.refl _ | apply Drawn0.step)⟩
                · rw [if_neg c8] at H
                  have c8b0 : ((rd l0 x13_1) == (rd l1 x13_1)) = false := beq_eq_false_iff_ne.mpr c8
                  have c8b1 : ((rd l0 x13_1) != (rd l1 x13_1)) = true := bne_iff_ne.mpr c8
                  obtain rfl := Option.some.inj H
                  have p85001 : 0 ≤ (x13_1 : Int) := of_decide_eq_true (by first | (with_reducible assumption) | assumption)
                  have q85001 : x13_1 < (l0.length : Int) := of_decide_eq_true (by first | (with_reducible assumption) | assumption)
                  obtain ⟨ad85001, e85001, hx85001_0⟩ := Kd.at_int HR0.out x13_1 p85001 q85001
                  cases e85001
                  replace p85001 := eq_true p85001
                  replace q85001 := eq_true q85001
                  have p85002 : 0 ≤ (x13_1 : Int) := of_decide_eq_true (by first | (with_reducible assumption) | assumption)
                  have q85002 : x13_1 < (l1.length : Int) := of_decide_eq_true (by first | (with_reducible assumption) | assumption)
                  obtain ⟨ad85002, e85002, hx85002_0⟩ := Kd.at_int HR1.out x13_1 p85002 q85002
                  cases e85002
                  replace p85002 := eq_true p85002
                  replace q85002 := eq_true q85002
                  go_wp2
                  repeat (go_quiet (fail); try go_wp2)
                  go_ret
                  exact ⟨by first | rfl | (simp; done) | (simp [*]; done), by repeat (first | exact Drawn0.refl _ | apply Drawn0.step)⟩
              · rw [if_neg c7] at H
                exact absurd H (by simp)
            · rw [if_neg c6] at H
              exact absurd H (by simp)
          · rw [if_neg c5] at H
            exact absurd H (by simp)
        · rw [if_neg c4] at H
          have c4b0 : decide (x13_1 < (l0.length : Int)) = false := decide_eq_false c4
          clear c4
          obtain rfl := Option.some.inj H
          go_wp2
          repeat (go_quiet (fail); try go_wp2)
          go_ret
          exact ⟨by first | rfl | (simp; done) | (simp [*]; done), by repeat (first | exact Drawn0.refl _ | apply Drawn0.step)⟩
  · rw [if_neg c3] at H
    have c3b0 : ((l0.length : Int) == (l1.length : Int)) = false := beq_eq_false_iff_ne.mpr c3
    have c3b1 : ((l0.length : Int) != (l1.length : Int)) = true := bne_iff_ne.mpr c3
    have c3b2 : (l0.length == l1.length) = false := by first | simpa using c3 | (simp at c3 ⊢; omega)
    obtain rfl := Option.some.inj H
    go_enter Tryd.func84, Tryd.ntmps84
    go_wp2
    repeat (go_quiet (fail); try go_wp2)
    go_ret
    exact ⟨by first | rfl | (simp; done) | (simp [*]; done), by repeat (first | exact Drawn0.refl _ | apply Drawn0.step)⟩

end Go.Proofs.YtefhngadeimklaaDoor.Q
end
section
namespace Go.Proofs.YtefhngadeimklaaDoor.Q
open Go.RowKit Go.Proofs.YtefhngadeimklaaDoorW.PrintWords Go.Proofs.YtefhngadeimklaaDoorW.PrintLast Go.Proofs.YtefhngadeimklaaDoorW.PrintMore
def lenF (B : List Int) : Int := rd B 2 * 256 + rd B 3
def fourF (x : Int) : List Int := [x / 16777216 % 256, x / 65536 % 256, x / 256 % 256, x % 256]
/-- The data of a bank, and whether it is right. -/
def dataF (B : List Int) : List Int × Bool :=
  if rd B 0 = 165 ∧ lenF B ≤ 248 then ((B.drop 8).take (lenF B).toNat, decide (fourF (sumF (rd B 1) ((B.drop 8).take (lenF B).toNat)) = (B.drop 4).take 4)) else ([], false)
theorem bits_or_i64_nat (a b : Nat) (ha : a < 4294967296) (hb : b < 4294967296) : bits BinOp.or IntKind.i64 (a : Int) (b : Int) = ((a ||| b : Nat) : Int) := by
  have hx : a ||| b < 2 ^ 32 := Nat.or_lt_two_pow (by omega) (by omega)
  have h1 : (BitVec.ofInt 64 (a : Int)).toNat = a := by
    rw [BitVec.ofInt_natCast, BitVec.toNat_ofNat]; exact Nat.mod_eq_of_lt (by omega)
  have h2 : (BitVec.ofInt 64 (b : Int)).toNat = b := by
    rw [BitVec.ofInt_natCast, BitVec.toNat_ofNat]; exact Nat.mod_eq_of_lt (by omega)
  show IntKind.i64.wrap ((BitVec.ofInt 64 (a : Int) ||| BitVec.ofInt 64 (b : Int)).toNat : Int) = _
  rw [BitVec.toNat_or, h1, h2, i64_w]
  unfold wrap64
  omega
theorem or_256 (a b : Int) (ha : 0 ≤ a ∧ a < 256) (hb : 0 ≤ b ∧ b < 256) : bits BinOp.or IntKind.i64 (a * 256) b = a * 256 + b := by
  obtain ⟨x, rfl⟩ := Int.eq_ofNat_of_zero_le ha.1
  obtain ⟨y, rfl⟩ := Int.eq_ofNat_of_zero_le hb.1
  have e : (x : Int) * 256 = ((256 * x : Nat) : Int) := by omega
  rw [e, bits_or_i64_nat _ _ (by omega) (by omega), show 256 * x = 2 ^ 8 * x by rfl, ← Nat.two_pow_add_eq_or_of_lt (show y < 2 ^ 8 by omega)]
  omega
theorem equal_go (x y : List Int) (hl : x.length = y.length) (hb : x.length ≤ 1000000000000000) (d : Nat) : ∀ (k : Nat) (i : Int), 0 ≤ i → i + d = x.length → d < k → slices_Equal_byte_byte.l0 k x y x.length i = some (decide (x.drop i.toNat = y.drop i.toNat)) := by
  induction d with
  | zero =>
    intro k i h0 h1 hk
    obtain ⟨k, rfl⟩ : ∃ m, k = m + 1 := ⟨k - 1, by omega⟩
    simp only [slices_Equal_byte_byte.l0]
    rw [if_neg (by omega), List.drop_eq_nil_of_le (by omega), List.drop_eq_nil_of_le (by omega)]
    rfl
  | succ d ih =>
    intro k i h0 h1 hk
    obtain ⟨k, rfl⟩ : ∃ m, k = m + 1 := ⟨k - 1, by omega⟩
    have hix : i.toNat < x.length := by omega
    have hiy : i.toNat < y.length := by omega
    have r1 : rd x i = x[i.toNat] := by simp [rd, List.getD_eq_getElem?_getD, List.getElem?_eq_getElem hix]
    have r2 : rd y i = y[i.toNat] := by simp [rd, List.getD_eq_getElem?_getD, List.getElem?_eq_getElem hiy]
    have e1 : wrap64 (i + 1) = i + 1 := by unfold wrap64; omega
    simp only [slices_Equal_byte_byte.l0]
    rw [if_pos (by omega), if_pos h0, if_pos (by omega), if_pos (by omega), r1, r2, e1, List.drop_eq_getElem_cons hix, List.drop_eq_getElem_cons hiy]
    by_cases he : x[i.toNat] = y[i.toNat]
    · rw [if_pos he, ih k (i + 1) (by omega) (by omega) (by omega), show (i + 1).toNat = i.toNat + 1 by omega, Option.some.injEq, decide_eq_decide, List.cons.injEq]
      exact ⟨fun h => ⟨he, h⟩, fun h => h.2⟩
    · rw [if_neg he, Option.some.injEq, eq_comm, decide_eq_false_iff_not, List.cons.injEq]
      exact fun h => he h.1
theorem equal_eq (k : Nat) (x y : List Int) (hb : x.length ≤ 1000000000000000) (hk : x.length < k) : slices_Equal_byte_byte.f k x y = some (decide (x = y)) := by
  unfold slices_Equal_byte_byte.f
  by_cases hl : x.length = y.length
  · rw [if_pos (by omega), equal_go x y hl hb x.length k 0 (by omega) (by omega) hk]
    simp
  · rw [if_neg (by omega), Option.some.injEq, eq_comm, decide_eq_false_iff_not]
    intro e
    exact hl (by rw [e])
theorem arr_cut (b o : Nat) (l h : Int) (h0 : 0 ≤ l) (h1 : l ≤ h) (h2 : h ≤ 256) (h3 : l < 256) (W : World) : (Instr.sliceAt 91 (.pointer (some ⟨b, o, none⟩)) (some (.int .i64 l)) (some (.int .i64 h)) none).run Tryd.prog W = .ok (.slice (some ⟨b, o + l.toNat, none⟩) (h.toNat - l.toNat) (256 - l.toNat)) W := by
  have hal : Tryd.prog.arrayLen 91 = 256 := by kernel_rfl
  have hel : Tryd.prog.elem 91 = 5 := by kernel_rfl
  have hsz : (Tryd.prog.info? 5).map (·.size) = some 1 := by kernel_rfl
  rw [run_sliceAt_array_lh W 91 ⟨b, o, none⟩ (by rw [hal, hel]; exact Tryd.underlying91) .i64 .i64 l h h0 h1 (by rw [hal]; omega), hel, run_size hsz, hal]
  simp only [Result.andThen, slicedAt]
  rw [if_neg (by omega), Nat.mul_one]
  unfold Addr.add
  split
  · rename_i hz
    rw [hz]
    rfl
  · rfl
set_option maxHeartbeats 4000000 in
set_option maxRecDepth 100000 in
theorem data_calls (b o : Nat) (B : List Int) (w : World) (hB : Kd.C (Kd.int .u8) w (some ⟨b, o, none⟩) 256 B) (hr : ∀ a ∈ B, 0 ≤ a ∧ a < 256) :
    Calls Tryd.prog 73 #[.pointer (some ⟨b, o, none⟩)] w fun e w' => ∃ (A : Option Addr) (c : Nat), e = .returned (.tuple #[.slice A (dataF B).1.length c, .bool (dataF B).2]) ∧ Kd.C (Kd.int .u8) w A (dataF B).1.length (dataF B).1 ∧ (dataF B).1.length ≤ c ∧ Below w.heap.size w w' := by
  have hl := Kd.C_len hB
  have hx : ∀ i : Int, 0 ≤ i → i < 256 → w.cell? ((⟨b, o, none⟩ : Addr).add i.toNat) = some (.int .u8 (rd B i)) := fun i h0 h1 => by
    obtain ⟨ad', ea, h⟩ := Kd.at_int hB i h0 (by omega)
    cases ea
    exact h
  have hrr : ∀ i : Int, 0 ≤ i → i < 256 → 0 ≤ rd B i ∧ rd B i < 256 := fun i h0 h1 => by
    have : rd B i = B[i.toNat]'(by omega) := by simp [rd, List.getD_eq_getElem?_getD, List.getElem?_eq_getElem (show i.toNat < B.length by omega)]
    rw [this]
    exact hr _ (List.getElem_mem _)
  have h0 : w.cell? ⟨b, o, none⟩ = some (.int .u8 (rd B 0)) := hx 0 (by omega) (by omega)
  have h1 : w.cell? ⟨b, o + 1, none⟩ = some (.int .u8 (rd B 1)) := hx 1 (by omega) (by omega)
  have h2 : w.cell? ⟨b, o + 2, none⟩ = some (.int .u8 (rd B 2)) := hx 2 (by omega) (by omega)
  have h3 : w.cell? ⟨b, o + 3, none⟩ = some (.int .u8 (rd B 3)) := hx 3 (by omega) (by omega)
  obtain ⟨R, hR⟩ : ∃ R, R = dataF B := ⟨_, rfl⟩
  rw [← hR]
  go_enter Tryd.func73, Tryd.ntmps73
  go_wp2
  refine start_ (n := 13) (S := fun w' => w'.cell? ⟨b, o + 2, none⟩ = some (.int .u8 (rd B 2)) ∧ w'.cell? ⟨b, o + 3, none⟩ = some (.int .u8 (rd B 3))) (ds := []) #[false, false, false, false, false, false, false, false, false, false, false, false, false] (by kernel_rfl) rfl rfl ⟨h2, h3⟩ (fun hHeld => ?_)
  refine pure_ (i := 0) (N := some 6) (v := ?_) (a' := ?_) #[true, false, false, false, false, false, false, false, false, false, false, false, false] rfl rfl (by kernel_rfl) (fun _ _ _ h => h) (Or.inl ⟨by rfl, ?_⟩) ?_ ?_
  rotate_left
  · intro w'
    go_simp
    with_reducible rfl
  rotate_left
  · simp only [Act.put, List.setIfInBounds_toArray, List.set_cons_zero, List.set_cons_succ]
    rfl
  refine pure_ (i := 1) (N := some 7) (v := ?_) (a' := ?_) #[true, true, false, false, false, false, false, false, false, false, false, false, false] rfl rfl (by kernel_rfl) (fun _ _ _ h => h) (Or.inl ⟨by rfl, ?_⟩) ?_ ?_
  rotate_left
  · intro w'
    go_simp
    with_reducible rfl
  rotate_left
  · simp only [Act.put, List.setIfInBounds_toArray, List.set_cons_zero, List.set_cons_succ]
    rfl
  refine pure_ (i := 2) (N := some 8) (v := ?_) (a' := ?_) #[true, true, true, false, false, false, false, false, false, false, false, false, false] rfl rfl (by kernel_rfl) (fun _ _ _ h => h) (Or.inl ⟨by rfl, ?_⟩) ?_ ?_
  rotate_left
  · intro w'
    go_simp
    with_reducible rfl
  rotate_left
  · simp only [Act.put, List.setIfInBounds_toArray, List.set_cons_zero, List.set_cons_succ]
    rfl
  refine take_ (i := 3) (N := some 9) (v := .int .u8 (rd B 2)) (a' := ?_) #[true, true, true, true, false, false, false, false, false, false, false, false, false] rfl rfl (by kernel_rfl) (fun _ _ _ h => h) (Or.inl ⟨by rfl, ?_⟩) hHeld ?_ ?_
  rotate_left
  rotate_left
  · simp only [Act.put, List.setIfInBounds_toArray, List.set_cons_zero, List.set_cons_succ]
    rfl
  rotate_left
  · rintro w' ⟨s0, s1⟩
    go_simp
  refine pure_ (i := 4) (N := some 10) (v := ?_) (a' := ?_) #[true, true, true, true, true, false, false, false, false, false, false, false, false] rfl rfl (by kernel_rfl) (fun _ _ _ h => h) (Or.inl ⟨by rfl, ?_⟩) ?_ ?_
  rotate_left
  · intro w'
    go_simp
    with_reducible rfl
  rotate_left
  · simp only [Act.put, List.setIfInBounds_toArray, List.set_cons_zero, List.set_cons_succ]
    rfl
  refine pure_ (i := 5) (N := some 11) (v := ?_) (a' := ?_) #[true, true, true, true, true, true, false, false, false, false, false, false, false] rfl rfl (by kernel_rfl) (fun _ _ _ h => h) (Or.inl ⟨by rfl, ?_⟩) ?_ ?_
  rotate_left
  · intro w'
    go_simp
    with_reducible rfl
  rotate_left
  · simp only [Act.put, List.setIfInBounds_toArray, List.set_cons_zero, List.set_cons_succ]
    rfl
  refine pure_ (i := 6) (N := some 12) (v := ?_) (a' := ?_) #[true, true, true, true, true, true, true, false, false, false, false, false, false] rfl rfl (by kernel_rfl) (fun _ _ _ h => h) (Or.inl ⟨by rfl, ?_⟩) ?_ ?_
  rotate_left
  · intro w'
    go_simp
    with_reducible rfl
  rotate_left
  · simp only [Act.put, List.setIfInBounds_toArray, List.set_cons_zero, List.set_cons_succ]
    rfl
  refine pure_ (i := 7) (N := some 13) (v := ?_) (a' := ?_) #[true, true, true, true, true, true, true, true, false, false, false, false, false] rfl rfl (by kernel_rfl) (fun _ _ _ h => h) (Or.inl ⟨by rfl, ?_⟩) ?_ ?_
  rotate_left
  · intro w'
    go_simp
    with_reducible rfl
  rotate_left
  · simp only [Act.put, List.setIfInBounds_toArray, List.set_cons_zero, List.set_cons_succ]
    rfl
  refine pure_ (i := 8) (N := some 14) (v := ?_) (a' := ?_) #[true, true, true, true, true, true, true, true, true, false, false, false, false] rfl rfl (by kernel_rfl) (fun _ _ _ h => h) (Or.inl ⟨by rfl, ?_⟩) ?_ ?_
  rotate_left
  · intro w'
    go_simp
    with_reducible rfl
  rotate_left
  · simp only [Act.put, List.setIfInBounds_toArray, List.set_cons_zero, List.set_cons_succ]
    rfl
  refine take_ (i := 9) (N := some 15) (v := .int .u8 (rd B 3)) (a' := ?_) #[true, true, true, true, true, true, true, true, true, true, false, false, false] rfl rfl (by kernel_rfl) (fun _ _ _ h => h) (Or.inl ⟨by rfl, ?_⟩) hHeld ?_ ?_
  rotate_left
  rotate_left
  · simp only [Act.put, List.setIfInBounds_toArray, List.set_cons_zero, List.set_cons_succ]
    rfl
  rotate_left
  · rintro w' ⟨s0, s1⟩
    go_simp
  refine pure_ (i := 10) (N := some 16) (v := ?_) (a' := ?_) #[true, true, true, true, true, true, true, true, true, true, true, false, false] rfl rfl (by kernel_rfl) (fun _ _ _ h => h) (Or.inl ⟨by rfl, ?_⟩) ?_ ?_
  rotate_left
  · intro w'
    go_simp
    with_reducible rfl
  rotate_left
  · simp only [Act.put, List.setIfInBounds_toArray, List.set_cons_zero, List.set_cons_succ]
    rfl
  refine pure_ (i := 11) (N := some 17) (v := ?_) (a' := ?_) #[true, true, true, true, true, true, true, true, true, true, true, true, false] rfl rfl (by kernel_rfl) (fun _ _ _ h => h) (Or.inl ⟨by rfl, ?_⟩) ?_ ?_
  rotate_left
  · intro w'
    go_simp
    with_reducible rfl
  rotate_left
  · simp only [Act.put, List.setIfInBounds_toArray, List.set_cons_zero, List.set_cons_succ]
    rfl
  refine pure_ (i := 12) (N := some 4) (v := ?_) (a' := ?_) #[true, true, true, true, true, true, true, true, true, true, true, true, true] rfl rfl (by kernel_rfl) (fun _ _ _ h => h) (Or.inl ⟨by rfl, ?_⟩) ?_ ?_
  rotate_left
  · intro w'
    go_simp
    with_reducible rfl
  rotate_left
  · simp only [Act.put, List.setIfInBounds_toArray, List.set_cons_zero, List.set_cons_succ]
    rfl
  refine done_ (n := 0) (by kernel_rfl) ?_
  have b1 := hrr 1 (by omega) (by omega)
  have b2 := hrr 2 (by omega) (by omega)
  have b3 := hrr 3 (by omega) (by omega)
  have en : bits BinOp.or IntKind.i64 (IntKind.i64.wrap (IntKind.i64.wrap (rd B 2) * 256)) (IntKind.i64.wrap (rd B 3)) = lenF B := by
    have e : ∀ x : Int, 0 ≤ x → x < 1000000 → IntKind.i64.wrap x = x := fun x h1 h2 => (i64_w _).trans (by unfold wrap64; omega)
    rw [e (rd B 2) (by omega) (by omega), e _ (by omega) (by omega), e _ (by omega) (by omega), or_256 _ _ b2 b3, lenF]
  have hn0 : 0 ≤ lenF B := by unfold lenF; omega
  rw [en]
  obtain ⟨n, hn⟩ : ∃ n, n = lenF B := ⟨_, rfl⟩
  rw [← hn] at hn0 ⊢
  unfold dataF at hR
  rw [← hn] at hR
  by_cases c0 : rd B 0 = 165
  · have d0 : (rd B 0 != 165) = false := by simp [c0]
    by_cases c1 : n ≤ 248
    · have d1 : decide (248 < n) = false := decide_eq_false (by omega)
      have e8 : IntKind.i64.wrap (8 + n) = 8 + n := (i64_w _).trans (by unfold wrap64; omega)
      rw [if_pos ⟨c0, c1⟩] at hR
      obtain ⟨d, hd⟩ : ∃ d, d = (B.drop 8).take n.toNat := ⟨_, rfl⟩
      rw [← hd] at hR
      have HR := Aside0.mk hR
      have hcut : ∀ W : World, (Instr.sliceAt 91 (.pointer (some ⟨b, o, none⟩)) (some (.int .i64 8)) (some (.int .i64 (8 + n))) none).run Tryd.prog W = .ok (.slice (some ⟨b, o + 8, none⟩) n.toNat 248) W := fun W => by
        rw [arr_cut b o 8 (8 + n) (by omega) (by omega) (by omega) (by omega)]
        rw [show (8 + n).toNat - (8 : Int).toNat = n.toNat by omega]
        rfl
      clear hR
      have HC1 := Aside0.mk c1
      have hdl : d.length = n.toNat := by rw [hd, List.length_take, List.length_drop]; omega
      have hcut2 : ∀ W : World, (Instr.sliceAt 91 (.pointer (some ⟨b, o, none⟩)) (some (.int .i64 4)) (some (.int .i64 8)) none).run Tryd.prog W = .ok (.slice (some ⟨b, o + 4, none⟩) 4 252) W := fun W => arr_cut b o 4 8 (by omega) (by omega) (by omega) (by omega) W
      have HC8 := Aside0.mk (show Kd.C (Kd.int .u8) w (some ⟨b, o + 8, none⟩) n.toNat d from by rw [hd]; exact C_cut hB (c := 256) (by omega) 8 n.toNat (by omega))
      have HC4 := Aside0.mk (show Kd.C (Kd.int .u8) w (some ⟨b, o + 4, none⟩) 4 ((B.drop 4).take 4) from C_cut hB (c := 256) (by omega) 4 4 (by omega))
      have HSum := Aside0.mk (show ∀ W : World, Kd.C (Kd.int .u8) W (some ⟨b, o + 8, none⟩) n.toNat d → Calls Tryd.prog 69 #[.int .u8 (rd B 1), .slice (some ⟨b, o + 8, none⟩) n.toNat 248] W (fun e w' => e = .returned (.int .u32 (sumF (rd B 1) d)) ∧ Below W.heap.size W w') from fun W h => by
        rw [← hdl] at h ⊢
        exact nvram_Sum.calls _ _ _ _ _ _ h (by omega) rfl)
      obtain ⟨M, hM⟩ : ∃ M, M = (B.drop 4).take 4 := ⟨_, rfl⟩
      rw [← hM] at HR HC4
      have HML := Aside0.mk (show M.length = 4 by rw [hM, List.length_take, List.length_drop]; omega)
      have HDL := Aside0.mk hdl
      have HEq := Aside0.mk (show ∀ (W : World) (A4 : Option Addr) (c4 : Nat), Kd.C (Kd.int .u8) W A4 (fourF (sumF (rd B 1) d)).length (fourF (sumF (rd B 1) d)) → (fourF (sumF (rd B 1) d)).length ≤ c4 → Kd.C (Kd.int .u8) W (some ⟨b, o + 4, none⟩) 4 M → Calls Tryd.prog 84 #[.slice A4 (fourF (sumF (rd B 1) d)).length c4, .slice (some ⟨b, o + 4, none⟩) 4 252] W (fun e w' => e = .returned (.bool (decide (fourF (sumF (rd B 1) d) = M))) ∧ Drawn0 W w') from fun W A4 c4 h1 h2 h3 => by
        have hm := HML.out
        have h3' : Kd.C (Kd.int .u8) W (some ⟨b, o + 4, none⟩) M.length M := by rw [hm]; exact h3
        have h4 := slices_Equal_byte_byte.calls 10 A4 c4 _ (some ⟨b, o + 4, none⟩) 252 M _ W h1 h2 h3' (by omega) (equal_eq 10 _ M (by simp [fourF]) (by simp [fourF]))
        rw [hm] at h4
        exact h4)
      clear c0 c1 en hn hdl hd hM hB hr hx hrr hl h2 h3 b1 b2 b3 hn0
      go_wp2
      refine start_ (n := 14) (S := fun w' => w'.cell? ⟨b, o + 1, none⟩ = some (.int .u8 (rd B 1))) (ds := [6, 7, 11]) #[false, false, false, false, false, false, false, false, false, false, false, false, false, false] (by kernel_rfl) rfl rfl h1 (fun hHeld => ?_)
      refine pure_ (i := 0) (N := some 32) (v := ?_) (a' := ?_) #[true, false, false, false, false, false, false, false, false, false, false, false, false, false] rfl rfl (by kernel_rfl) (fun _ _ _ h => h) (Or.inl ⟨by rfl, ?_⟩) ?_ ?_
      rotate_left
      · intro w'
        go_simp
        with_reducible rfl
      rotate_left
      · simp only [Act.put, List.setIfInBounds_toArray, List.set_cons_zero, List.set_cons_succ]
        rfl
      refine pure_ (i := 1) (N := some 33) (v := ?_) (a' := ?_) #[true, true, false, false, false, false, false, false, false, false, false, false, false, false] rfl rfl (by kernel_rfl) (fun _ _ _ h => h) (Or.inl ⟨by rfl, ?_⟩) ?_ ?_
      rotate_left
      · intro w'
        go_simp
        with_reducible rfl
      rotate_left
      · simp only [Act.put, List.setIfInBounds_toArray, List.set_cons_zero, List.set_cons_succ]
        rfl
      refine pure_ (i := 2) (N := some 34) (v := ?_) (a' := ?_) #[true, true, true, false, false, false, false, false, false, false, false, false, false, false] rfl rfl (by kernel_rfl) (fun _ _ _ h => h) (Or.inl ⟨by rfl, ?_⟩) ?_ ?_
      rotate_left
      · intro w'
        go_simp
        with_reducible rfl
      rotate_left
      · simp only [Act.put, List.setIfInBounds_toArray, List.set_cons_zero, List.set_cons_succ]
        rfl
      refine pure_ (i := 3) (N := some 35) (v := ?_) (a' := ?_) #[true, true, true, true, false, false, false, false, false, false, false, false, false, false] rfl rfl (by kernel_rfl) (fun _ _ _ h => h) (Or.inl ⟨by rfl, ?_⟩) ?_ ?_
      rotate_left
      · intro w'
        go_simp
        with_reducible rfl
      rotate_left
      · simp only [Act.put, List.setIfInBounds_toArray, List.set_cons_zero, List.set_cons_succ]
        rfl
      refine take_ (i := 4) (N := some 36) (v := .int .u8 (rd B 1)) (a' := ?_) #[true, true, true, true, true, false, false, false, false, false, false, false, false, false] rfl rfl (by kernel_rfl) (fun _ _ _ h => h) (Or.inl ⟨by rfl, ?_⟩) hHeld ?_ ?_
      rotate_left
      rotate_left
      · simp only [Act.put, List.setIfInBounds_toArray, List.set_cons_zero, List.set_cons_succ]
        rfl
      rotate_left
      · rintro w' s0
        go_simp
      refine pure_ (i := 5) (N := some 37) (v := ?_) (a' := ?_) #[true, true, true, true, true, true, false, false, false, false, false, false, false, false] rfl rfl (by kernel_rfl) (fun _ _ _ h => h) (Or.inl ⟨by rfl, ?_⟩) ?_ ?_
      rotate_left
      · intro w'
        go_simp
        with_reducible rfl
      rotate_left
      · simp only [Act.put, List.setIfInBounds_toArray, List.set_cons_zero, List.set_cons_succ]
        rfl
      refine pure_ (i := 8) (N := some 40) (v := ?_) (a' := ?_) #[true, true, true, true, true, true, false, false, true, false, false, false, false, false] rfl rfl (by kernel_rfl) (fun _ _ _ h => h) (Or.inl ⟨by rfl, ?_⟩) ?_ ?_
      rotate_left
      · intro w'
        go_simp
        with_reducible rfl
      rotate_left
      · simp only [Act.put, List.setIfInBounds_toArray, List.set_cons_zero, List.set_cons_succ]
        rfl
      refine pure_ (i := 9) (N := some 41) (v := ?_) (a' := ?_) #[true, true, true, true, true, true, false, false, true, true, false, false, false, false] rfl rfl (by kernel_rfl) (fun _ _ _ h => h) (Or.inl ⟨by rfl, ?_⟩) ?_ ?_
      rotate_left
      · intro w'
        go_simp
        with_reducible rfl
      rotate_left
      · simp only [Act.put, List.setIfInBounds_toArray, List.set_cons_zero, List.set_cons_succ]
        rfl
      refine pure_ (i := 10) (N := some 42) (v := ?_) (a' := ?_) #[true, true, true, true, true, true, false, false, true, true, true, false, false, false] rfl rfl (by kernel_rfl) (fun _ _ _ h => h) (Or.inl ⟨by rfl, ?_⟩) ?_ ?_
      rotate_left
      · intro w'
        go_simp
        with_reducible rfl
      rotate_left
      · simp only [Act.put, List.setIfInBounds_toArray, List.set_cons_zero, List.set_cons_succ]
        rfl
      refine last_ (i := 6) (N := some 38) #[true, true, true, true, true, true, true, false, true, true, true, false, false, false] rfl rfl (by kernel_rfl) (by decide) (fun K hK => ?_)
      refine goes_ Tryd.func69 (by kernel_rfl) rfl #[.int .u8 (rd B 1), .slice (some ⟨b, o + 8, none⟩) n.toNat 248] (by rfl) rfl rfl (by first | rfl | (simp only [List.map_toArray, List.map_cons, List.map_nil]; rfl)) ?_
      refine (HSum.out _ (Kd.C_drew (Kd.C_drew HC8.out))).mono ?_
      rintro e w1 ⟨rfl, hb⟩
      refine ⟨_, rfl, hK.out _ _ ?_⟩
      have HB1 := Aside0.mk (below_step (below_drew (below_drew (Below.refl _ _))) hb)
      clear hb hHeld
      clear hK K
      simp only [Act.put, List.setIfInBounds_toArray, List.set_cons_zero, List.set_cons_succ]
      refine last_ (i := 7) (N := some 39) #[true, true, true, true, true, true, true, true, true, true, true, false, false, false] rfl rfl (by kernel_rfl) (by decide) (fun K hK => ?_)
      refine goes_ Tryd.func68 (by kernel_rfl) rfl #[.int .u32 (sumF (rd B 1) d)] (by rfl) rfl rfl (by first | rfl | (simp only [List.map_toArray, List.map_cons, List.map_nil]; rfl)) ?_
      refine (nvram_four.calls (sumF (rd B 1) d) (fourF (sumF (rd B 1) d)) _ rfl).mono ?_
      rintro e w2 ⟨v4, rfl, ho, hb⟩
      obtain ⟨A4, c4, rfl⟩ := Kd.R_slice ho
      refine ⟨_, rfl, hK.out _ _ ?_⟩
      have HO := Aside0.mk ho
      have HB2 := Aside0.mk (below_step HB1.out hb)
      clear hb ho
      clear hK K
      simp only [Act.put, List.setIfInBounds_toArray, List.set_cons_zero, List.set_cons_succ]
      refine last_ (i := 11) (N := some 43) #[true, true, true, true, true, true, true, true, true, true, true, true, false, false] rfl rfl (by kernel_rfl) (by decide) (fun K hK => ?_)
      refine goes_ Tryd.func84 (by kernel_rfl) rfl #[.slice A4 (fourF (sumF (rd B 1) d)).length c4, .slice (some ⟨b, o + 4, none⟩) 4 252] (by rfl) rfl rfl (by first | rfl | (simp only [List.map_toArray, List.map_cons, List.map_nil]; rfl)) ?_
      refine (HEq.out _ _ _ (Kd.R_reads' HO.out).2.2 (Kd.R_reads' HO.out).2.1 (Kd.C_below HC4.out HB2.out)).mono ?_
      rintro e w3 ⟨rfl, ⟨nd, rfl⟩⟩
      refine ⟨_, rfl, hK.out _ _ ?_⟩
      have HB3 := Aside0.mk (pw_below_drewN HB2.out nd)
      clear hK K
      simp only [Act.put, List.setIfInBounds_toArray, List.set_cons_zero, List.set_cons_succ]
      refine pure_ (i := 12) (N := some 2) (v := ?_) (a' := ?_) #[true, true, true, true, true, true, true, true, true, true, true, true, true, false] rfl rfl (by kernel_rfl) (fun _ _ _ h => h) (Or.inl ⟨by rfl, ?_⟩) ?_ ?_
      rotate_left
      · intro w'
        go_simp
        with_reducible rfl
      rotate_left
      · simp only [Act.put, List.setIfInBounds_toArray, List.set_cons_zero, List.set_cons_succ]
        rfl
      refine pure_ (i := 13) (N := some 3) (v := ?_) (a' := ?_) #[true, true, true, true, true, true, true, true, true, true, true, true, true, true] rfl rfl (by kernel_rfl) (fun _ _ _ h => h) (Or.inl ⟨by rfl, ?_⟩) ?_ ?_
      rotate_left
      · intro w'
        go_simp
        with_reducible rfl
      rotate_left
      · simp only [Act.put, List.setIfInBounds_toArray, List.set_cons_zero, List.set_cons_succ]
        rfl
      refine done_ (n := 0) (by kernel_rfl) ?_
      go_wp2
      go_ret2
      rw [HR.out]
      refine ⟨_, _, by rw [show (d, decide (fourF (sumF (rd B 1) d) = M)).1.length = n.toNat from HDL.out]; rfl, ?_, ?_, HB3.out⟩
      · rw [show (d, decide (fourF (sumF (rd B 1) d) = M)).1.length = n.toNat from HDL.out]
        exact HC8.out
      · show d.length ≤ 248
        have := HDL.out
        have := HC1.out
        omega
    · have d1 : decide (248 < n) = true := decide_eq_true (by omega)
      rw [if_neg (fun x => c1 x.2)] at hR
      have HR := Aside0.mk hR
      clear hR
      clear c0 c1 en hn
      go_wp2
      go_ret2
      rw [HR.out]
      exact ⟨none, 0, rfl, Kd.C_nil _ _, by simp, below_drew (Below.refl _ _)⟩
  · have d0 : (rd B 0 != 165) = true := by simp [c0]
    rw [if_neg (fun x => c0 x.1)] at hR
    have HR := Aside0.mk hR
    clear hR
    clear c0 en hn
    go_wp2
    go_ret2
    rw [HR.out]
    exact ⟨none, 0, rfl, Kd.C_nil _ _, by simp, below_drew (Below.refl _ _)⟩
end Go.Proofs.YtefhngadeimklaaDoor.Q
end
section
namespace Go.Proofs.YtefhngadeimklaaDoor.Q
open Go.RowKit Go.Proofs.YtefhngadeimklaaDoorW.PrintWords Go.Proofs.YtefhngadeimklaaDoorW.PrintLast Go.Proofs.YtefhngadeimklaaDoorW.PrintMore
def byteCells (L : List Int) : List Value := L.map (Value.int .u8)
theorem byteCells_len (L : List Int) : (byteCells L).length = L.length := List.length_map _
theorem byteCells_one (L : List Int) : ∀ v ∈ byteCells L, v.oneCell' = true := fun v hv => by
  obtain ⟨x, _, rfl⟩ := List.mem_map.1 hv
  rfl
theorem byteCells_get (L : List Int) (j : Nat) (v : Value) (h : (byteCells L)[j]? = some v) : ∃ x, L[j]? = some x ∧ v = .int .u8 x := by
  unfold byteCells at h
  rw [List.getElem?_map] at h
  obtain ⟨x, hx, rfl⟩ := Option.map_eq_some_iff.1 h
  exact ⟨x, hx, rfl⟩
theorem C_cells {w : World} {ad : Addr} {n : Nat} {L : List Int} (h : Kd.C (Kd.int .u8) w (some ad) n L) : ∀ j v, (byteCells L)[j]? = some v → w.cell? (ad.add j) = some v := fun j v hv => by
  obtain ⟨x, hx, rfl⟩ := byteCells_get L j v hv
  have hj : j < L.length := (List.getElem?_eq_some_iff.1 hx).1
  obtain ⟨ad', ea, hc⟩ := Kd.at_int h (j : Int) (by omega) (by have := Kd.C_len h; omega)
  cases ea
  rw [Int.toNat_natCast] at hc
  rw [hc]
  have : rd L (j : Int) = x := by simp [rd, List.getD_eq_getElem?_getD, hx]
  rw [this]
theorem C_of_range {w : World} {b o n : Nat} {L : List Int} (h : w.rangeAt b o (byteCells L)) (hl : L.length = n) (hn : n ≤ 9223372036854775807) : Kd.C (Kd.int .u8) w (some ⟨b, o, none⟩) n L := by
  refine ⟨hl, hn, fun hp => ⟨_, rfl, fun j p hj => ⟨[.int .u8 p], rfl, rfl, fun i u hu => ?_⟩⟩⟩
  have hi : i = 0 := by
    have := (List.getElem?_eq_some_iff.1 hu).1
    simp at this
    exact this
  subst hi
  simp at hu
  subst hu
  rw [Addr.add_mid]
  have := h j (.int .u8 p) (by unfold byteCells; rw [List.getElem?_map, hj]; rfl)
  show w.cell? ⟨b, o + (j * 1 + 0), none⟩ = _
  rw [Nat.mul_one, Nat.add_zero]
  exact this
theorem range_append {w : World} {b o : Nat} {xs ys : List Value} (h1 : w.rangeAt b o xs) (h2 : w.rangeAt b (o + xs.length) ys) : w.rangeAt b o (xs ++ ys) := fun j v hv => by
  by_cases hj : j < xs.length
  · rw [List.getElem?_append_left hj] at hv
    exact h1 j v hv
  · rw [List.getElem?_append_right (by omega)] at hv
    have := h2 _ v hv
    rwa [show o + xs.length + (j - xs.length) = o + j by omega] at this
section
variable {P : Program}
theorem run_loadVar_any (w : World) (ad : Addr) (ty : TypeId) (cs : List Value) (d : TypeDesc) (hc : ∀ j v, cs[j]? = some v → w.cell? (ad.add j) = some v)
    (hu : P.underlying ty = some d) (hd : d.isRow = true) (hi : (P.info? ty).map (·.size) = some cs.length) :
    (loadVar ty ad).run P w = .ok (.agg cs.toArray) w := by
  have hl : (loadCells ad cs.length).run P w = .ok cs.toArray w := run_loadCells_list (P := P) w ad cs hc
  cases hq : P.info? ty with
  | none => simp [hq] at hi
  | some i =>
    have hs : i.size = cs.length := by simpa [hq] using hi
    have hagg : (isAgg ty).run P w = .ok true w := by
      unfold isAgg
      rw [Sem.run_bind, run_underlying hu w]
      cases d <;> simp_all
    simp [loadVar, Sem.run_bind, hagg, sizeOf, typeInfo, hq, hs, hl]
theorem wpList_load_any {ops : Array Oper} {rest : List Oper} {op : Oper} {a : Act} {w : World} {Q : Exit → Act → World → Prop} (hgd : op.guard = none) (ty : TypeId) (x : Operand) (ho : op.op = .load ty x)
    (ad : Addr) (hx : a.eval x = .pointer (some ad)) (cs : List Value) (d : TypeDesc) (hc : ∀ j v, cs[j]? = some v → w.cell? (ad.add j) = some v)
    (hu : P.underlying ty = some d) (hd : d.isRow = true) (hi : (P.info? ty).map (·.size) = some cs.length)
    (h : wpList P ops Q rest (a.put op.dst (.agg cs.toArray)) w) : wpList P ops Q (op :: rest) a w :=
  wpList_plain hgd fun K hK => by
    unfold Oper.wp execOp
    simp only [ho, hx, Instr.loadAt, Instr.sureAddr, Sem.run_bind, Sem.run_pure, Result.andThen_ok, run_loadVar_any w ad ty cs d hc hu hd hi]
    exact hK _ _ h
end
theorem below_setCells {w W : World} {g o : Nat} (h : Below w.heap.size w W) (hg : w.heap.size ≤ g) (vs : List Value) : Below w.heap.size w (W.setCells g o vs) := by
  obtain ⟨h1, h2, h3, h4⟩ := setCells_same g vs o W
  exact ⟨h1.trans h.os, h2.trans h.tape, h3.trans h.output, by rw [h4]; exact h.size, fun k hk => (setCells_far vs o k (by omega)).trans (h.block k hk)⟩
theorem alloc50 (h : Bool) (W : World) : (Instr.alloc 92 h undef).run Tryd.prog W = .ok (.pointer (some ⟨W.heap.size, 0, none⟩)) (W.alloc (.cells (byteCells (List.replicate 512 0)).toArray 92 (0, 0))) := by
  cases h <;> kernel_rfl
theorem size49 : (Tryd.prog.info? 91).map (·.size) = some 256 := by kernel_rfl
theorem size50 : (Tryd.prog.info? 92).map (·.size) = some 512 := by kernel_rfl
end Go.Proofs.YtefhngadeimklaaDoor.Q
end
section
namespace Go.Proofs.YtefhngadeimklaaDoor.Q
open Go.RowKit Go.Proofs.YtefhngadeimklaaDoorW.PrintWords Go.Proofs.YtefhngadeimklaaDoorW.PrintLast Go.Proofs.YtefhngadeimklaaDoorW.PrintMore
def beStep (x c : Int) : Int := (x * 256 % 4294967296 + c % 4294967296) % 4294967296
def beF (l : List Int) : Int := (l.take 4).foldl beStep 0
set_option maxHeartbeats 4000000 in
set_option maxRecDepth 100000 in
theorem decode_calls (A0 : Option Addr) (c0 : Nat) (l0 : List Int) (w : World) (hr0 : Kd.C (Kd.int .u8) w A0 l0.length l0) (_hc0 : l0.length ≤ c0) (hl : 4 ≤ l0.length) :
    Calls Tryd.prog 85 #[.slice A0 l0.length c0] w fun e w' => ∃ v : Value, e = .returned (.tuple #[.int .u32 (beF l0), v, .int .i64 0]) ∧ Below w.heap.size w w' := by
  have HR0 := Aside0.mk hr0
  have HL := Aside0.mk hl
  have hm := Kd.C_max hr0
  have hlt0 : decide ((l0.length : Int) < 4) = false := decide_eq_false (by omega)
  have hcut : ∀ W : World, (Instr.slice 42 (.slice A0 l0.length c0) (some (.int .i64 4)) none none).run Tryd.prog W = .ok (.slice (cutAt A0 c0 4 1) (l0.length - 4) (c0 - 4)) W := run_cut_lo (P := Tryd.prog) (sz := 1) Tryd.underlying42 (by kernel_rfl) A0 l0.length c0 4 (by omega) (by omega)
  obtain ⟨R, hR⟩ : ∃ R, R = beF l0 := ⟨_, rfl⟩
  rw [← hR]
  have HRR := Aside0.mk hR
  clear hr0 hl hR
  go_enter Tryd.func85, Tryd.ntmps85
  go_wp2
  go_loopg [5, 6] 4 (fun kq v5 v6 w' => ∃ i : Int, v6 = .int .i64 i ∧ v5 = .int .u32 ((l0.take i.toNat).foldl beStep 0) ∧ Aside0 (0 ≤ i ∧ i + kq = 4) ∧ Aside0 (Below w.heap.size w w'))
  case atStart => exact ⟨0, rfl, rfl, ⟨by omega, by omega⟩, ⟨Below.refl _ _⟩⟩
  case round =>
    obtain ⟨i, rfl, rfl, HI, HB⟩ := hrel
    cases gk with
    | zero =>
      have hi4 : i = 4 := by have := HI.out; omega
      subst hi4
      have hR := HRR.out
      have hR2 : (l0.take (4 : Int).toNat).foldl beStep 0 = R := hR.symm
      rw [hR2]
      clear hR hR2
      have hlt : decide ((4 : Int) < 4) = false := rfl
      go_wp2
      refine start_ (n := 6) (S := fun _ => True) (ds := []) #[false, false, false, false, false, false] (by kernel_rfl) rfl rfl trivial (fun hHeld => ?_)
      refine pure_ (i := 0) (N := some 22) (v := ?_) (a' := ?_) #[true, false, false, false, false, false] rfl rfl (by kernel_rfl) (fun _ _ _ h => h) (Or.inl ⟨by rfl, ?_⟩) ?_ ?_
      rotate_left
      · intro w'
        go_simp
        with_reducible rfl
      rotate_left
      · simp only [Act.put, List.setIfInBounds_toArray, List.set_cons_zero, List.set_cons_succ]
        rfl
      refine pure_ (i := 1) (N := some 23) (v := ?_) (a' := ?_) #[true, true, false, false, false, false] rfl rfl (by kernel_rfl) (fun _ _ _ h => h) (Or.inl ⟨by rfl, ?_⟩) ?_ ?_
      rotate_left
      · intro w'
        go_simp
        with_reducible rfl
      rotate_left
      · simp only [Act.put, List.setIfInBounds_toArray, List.set_cons_zero, List.set_cons_succ]
        rfl
      refine pure_ (i := 2) (N := some 24) (v := ?_) (a' := ?_) #[true, true, true, false, false, false] rfl rfl (by kernel_rfl) (fun _ _ _ h => h) (Or.inl ⟨by rfl, ?_⟩) ?_ ?_
      rotate_left
      · intro w'
        go_simp
        with_reducible rfl
      rotate_left
      · simp only [Act.put, List.setIfInBounds_toArray, List.set_cons_zero, List.set_cons_succ]
        rfl
      refine pure_ (i := 3) (N := some 2) (v := ?_) (a' := ?_) #[true, true, true, true, false, false] rfl rfl (by kernel_rfl) (fun _ _ _ h => h) (Or.inl ⟨by rfl, ?_⟩) ?_ ?_
      rotate_left
      · intro w'
        go_simp
        with_reducible rfl
      rotate_left
      · simp only [Act.put, List.setIfInBounds_toArray, List.set_cons_zero, List.set_cons_succ]
        rfl
      refine pure_ (i := 4) (N := some 3) (v := ?_) (a' := ?_) #[true, true, true, true, true, false] rfl rfl (by kernel_rfl) (fun _ _ _ h => h) (Or.inl ⟨by rfl, ?_⟩) ?_ ?_
      rotate_left
      · intro w'
        go_simp
        with_reducible rfl
      rotate_left
      · simp only [Act.put, List.setIfInBounds_toArray, List.set_cons_zero, List.set_cons_succ]
        rfl
      refine pure_ (i := 5) (N := some 4) (v := ?_) (a' := ?_) #[true, true, true, true, true, true] rfl rfl (by kernel_rfl) (fun _ _ _ h => h) (Or.inl ⟨by rfl, ?_⟩) ?_ ?_
      rotate_left
      · intro w'
        go_simp
        with_reducible rfl
      rotate_left
      · simp only [Act.put, List.setIfInBounds_toArray, List.set_cons_zero, List.set_cons_succ]
        rfl
      refine done_ (n := 0) (by kernel_rfl) ?_
      go_wp2
      go_ret3
      exact ⟨_, rfl, below_drew HB.out⟩
    | succ k1 =>
      have hi := HI.out
      have hll := HL.out
      have hlt : decide (i < 4) = true := decide_eq_true (by omega)
      have hwr : IntKind.i64.wrap (i + 1) = i + 1 := (i64_w _).trans (by unfold wrap64; omega)
      obtain ⟨ad, ea, hx0⟩ := Kd.at_int (Kd.C_below HR0.out HB.out) i (by omega) (by omega)
      cases ea
      have p1 : (0 ≤ i) = True := eq_true (by omega)
      have p2 : (i < (l0.length : Int)) = True := eq_true (by omega)
      have hst : (l0.take (i + 1).toNat).foldl beStep 0 = beStep ((l0.take i.toNat).foldl beStep 0) (rd l0 i) := by
        rw [show (i + 1).toNat = i.toNat + 1 by omega, List.take_succ_eq_append_getElem (show i.toNat < l0.length by omega), List.foldl_append]
        simp [rd, List.getD_eq_getElem?_getD, List.getElem?_eq_getElem (show i.toNat < l0.length by omega)]
      have HST := Aside0.mk hst
      clear hi hll hst
      go_wp2
      go_roundg k1
      case measure => omega
      case rel => exact ⟨i + 1, rfl, by rw [HST.out]; rfl, ⟨by have := HI.out; omega, by have := HI.out; omega⟩, HB⟩
end Go.Proofs.YtefhngadeimklaaDoor.Q
end
section
namespace Go.Proofs.YtefhngadeimklaaDoor.Q
open Go.RowKit Go.Proofs.YtefhngadeimklaaDoorW.PrintWords Go.Proofs.YtefhngadeimklaaDoorW.PrintLast Go.Proofs.YtefhngadeimklaaDoorW.PrintMore
def bothF (nv : List Int) : List Int := if nv.length = 512 then nv else List.replicate 512 0
theorem results_arr {P : Program} {fn : Func} {p u : Tmp} {ty : TypeId} {v : Value} (h : fn.results = #[.cell p ty, .tmp u]) (tmps : Array Value) (w : World) (ad : Addr) (hp : tmps.getD p undef = .pointer (some ad)) (hv : tmps.getD u undef = v) (cs : List Value) (d : TypeDesc) (hc : ∀ j v, cs[j]? = some v → w.cell? (ad.add j) = some v)
    (hu : P.underlying ty = some d) (hd : d.isRow = true) (hi : (P.info? ty).map (·.size) = some cs.length) : (results fn tmps).run P w = .ok (.tuple #[.agg cs.toArray, v]) w := by
  rw [results_cell_tmp h, hp, hv]
  simp [asAddr, run_loadVar_any w ad ty cs d hc hu hd hi]
set_option maxHeartbeats 4000000 in
set_option maxRecDepth 100000 in
theorem both_calls (A0 : Option Addr) (c0 : Nat) (nv : List Int) (w : World) (hr0 : Kd.C (Kd.int .u8) w A0 nv.length nv) (hc0 : nv.length ≤ c0) :
    Calls Tryd.prog 65 #[.slice A0 nv.length c0] w fun e w' => e = .returned (.tuple #[.agg (byteCells (bothF nv)).toArray, .bool (decide (nv.length = 512))]) ∧ Below w.heap.size w w' := by
  obtain ⟨Z, hZ⟩ : ∃ Z, Z = byteCells (List.replicate 512 0) := ⟨_, rfl⟩
  have hZl : Z.length = 512 := by rw [hZ, byteCells_len]; simp
  have ha : ∀ W : World, (Instr.alloc 92 true undef).run Tryd.prog W = .ok (.pointer (some ⟨W.heap.size, 0, none⟩)) (W.alloc (.cells Z.toArray 92 (0, 0))) := fun W => by rw [hZ]; exact alloc50 true W
  by_cases hl : nv.length = 512
  · rw [hl] at hr0 hc0 ⊢
    have HL := Aside0.mk hl
    have HC0 := Aside0.mk hc0
    have HR0 := Aside0.mk hr0
    have HZL := Aside0.mk hZl
    have HZ := Aside0.mk hZ
    clear hl hc0 hr0 hZl hZ
    go_enter Tryd.func65, Tryd.ntmps65
    go_wp2_with (first
      | ((with_reducible refine gate_dst (N := 2) rfl ?_); refine box_event ?hg (N := 2) ?hd (cs := Z.toArray) (t := 92) ?hr ?_; (case hd => rfl); (case hg => rfl); (case hr => have hZ2 := HZ.out; first | (go_simp; done) | (go_simp; rfl)); intro gb hg w1 hbox hb; have BK := Aside0.mk hbox; have HB := Aside0.mk hb; have GB := Aside0.mk (show w.heap.size ≤ gb from hg ▸ Nat.le_refl _); clear hbox hb hg))
    have hBK := BK.out
    have HT := Aside0.mk (show w1.there gb 0 512 from fun j hj => ⟨by rw [blk_cell hBK]; simp [HZL.out]; omega, blk_frozen hBK _⟩)
    go_loopg [9] 2 (fun kq v9 w' => ∃ i : Int, v9 = .int .i64 i ∧ Aside0 (0 ≤ i ∧ i + kq = 2) ∧ Aside0 (w'.there gb 0 512) ∧ Aside0 (w'.rangeAt gb 0 (byteCells (nv.take (i * 256).toNat))) ∧ Aside0 (Below w.heap.size w w'))
    case atStart => exact ⟨0, rfl, ⟨by omega, by omega⟩, HT, ⟨fun j v h => by simp [byteCells] at h⟩, HB⟩
    case round =>
      clear BK hBK HT HB
      obtain ⟨i, rfl, HI, HT, HR, HB⟩ := hrel
      cases gk with
      | zero =>
        have hi2 : i = 2 := by have := HI.out; omega
        subst hi2
        have hR := HR.out
        rw [List.take_of_length_le (by have := HL.out; omega)] at hR
        have hlt : decide ((2 : Int) < 2) = false := rfl
        have HRC := Aside0.mk (show ∀ j v, (byteCells nv)[j]? = some v → wr.cell? ((⟨gb, 0, none⟩ : Addr).add j) = some v from fun j v h => by rw [Addr.add_mid]; exact hR j v h)
        have HNL := Aside0.mk (show (byteCells nv).length = 512 by rw [byteCells_len]; exact HL.out)
        clear hR
        go_wp2_with (first
          | ((with_reducible refine gate_dst (N := 24) rfl ?_); refine wpList_load_any rfl 92 (.tmp 2) rfl ⟨gb, 0, none⟩ rfl (byteCells nv) (.array 2 91) HRC.out Tryd.underlying92 rfl (by rw [HNL.out]; exact size50) ?_)
          | ((with_reducible refine gate_ (.store 92 (.tmp 2) (.tmp 24)) rfl ?_); refine wpList_store_mid rfl 92 (.tmp 2) (.tmp 24) rfl gb 0 (byteCells nv).toArray rfl rfl ?ht (by rw [List.size_toArray, HNL.out]; exact size50) (all_oneCell_toArray (byteCells_one nv)) ?_; (case ht => rw [List.size_toArray, HNL.out]; exact HT.out)))
        have hS := Aside0.mk (show (wr.setCells gb 0 (byteCells nv)).rangeAt gb 0 (byteCells nv) from World.rangeAt_setCells_same wr gb 0 _ (by rw [HNL.out]; exact HT.out))
        refine bodyPost_ret (v := .tuple #[.agg (byteCells nv).toArray, .bool true]) ?_ rfl ⟨?_, below_setCells HB.out GB.out _⟩
        · exact results_arr (p := 2) (u := 3) (ty := 92) (v := .bool true) rfl _ _ ⟨gb, 0, none⟩ rfl rfl (byteCells nv) (.array 2 91) (fun j v h => by rw [Addr.add_mid]; exact hS.out j v h) Tryd.underlying92 rfl (by rw [HNL.out]; exact size50)
        · unfold bothF
          rw [if_pos HL.out]
          rfl
      | succ k1 =>
        have hi := HI.out
        have hm : i = 0 ∨ i = 1 := by omega
        have hlt : decide (i < 2) = true := decide_eq_true (by omega)
        have hw1 : IntKind.i64.wrap (i + 1) = i + 1 := (i64_w _).trans (by unfold wrap64; omega)
        have hw2 : IntKind.i64.wrap (i * 256) = i * 256 := (i64_w _).trans (by unfold wrap64; omega)
        have hw3 : IntKind.i64.wrap ((i + 1) * 256) = (i + 1) * 256 := (i64_w _).trans (by unfold wrap64; omega)
        obtain ⟨ad, ea, -⟩ := Kd.at_int HR0.out 0 (by omega) (by omega)
        have hcut : ∀ W : World, (Instr.slice 42 (.slice A0 512 c0) (some (.int .i64 (i * 256))) (some (.int .i64 ((i + 1) * 256))) none).run Tryd.prog W = .ok (.slice (some (ad.add (i * 256).toNat)) 256 (c0 - (i * 256).toNat)) W := fun W => by
          rw [run_cut_lohi (P := Tryd.prog) (sz := 1) Tryd.underlying42 (by kernel_rfl) A0 512 c0 (i * 256) ((i + 1) * 256) (by omega) (by omega) (by have := HC0.out; omega), ea]
          unfold cutAt
          rw [if_neg (by have := HC0.out; omega), show ((i + 1) * 256).toNat - (i * 256).toNat = 256 by omega, Nat.mul_one]
          rfl
        have hcc : Kd.C (Kd.int .u8) w (some (ad.add (i * 256).toNat)) 256 ((nv.drop (i * 256).toNat).take 256) := by
          have h := C_cut HR0.out HC0.out (i * 256).toNat 256 (by omega)
          rw [ea] at h
          unfold cutAt at h
          rw [if_neg (by have := HC0.out; omega)] at h
          have e1 : (i * 256).toNat * (Kd.int .u8).sz = (i * 256).toNat := Nat.mul_one _
          rw [e1] at h
          exact h
        have HCC := Aside0.mk hcc
        obtain ⟨V, hV⟩ : ∃ V, V = byteCells ((nv.drop (i * 256).toNat).take 256) := ⟨_, rfl⟩
        have HV := Aside0.mk hV
        have HVL := Aside0.mk (show V.length = 256 by rw [hV, byteCells_len, List.length_take, List.length_drop, HL.out]; omega)
        have harr : ∀ W : World, (Instr.arrayAt 91 (.slice (some (ad.add (i * 256).toNat)) 256 (c0 - (i * 256).toNat))).run Tryd.prog W = .ok (.pointer (some (ad.add (i * 256).toNat))) W := fun W => run_arrayAt W 91 5 256 _ _ _ Tryd.underlying91 (by omega)
        have p1 : (0 ≤ i) = True := eq_true (by omega)
        have p2 : (i < 2) = True := eq_true (by omega)
        clear hcc hV hi hm ea
        go_wp2_with (first
          | ((with_reducible refine gate_dst (N := 21) rfl ?_); refine wpList_load_any rfl 91 (.tmp 20) rfl (ad.add (i * 256).toNat) rfl V (.array 256 5) ?hc Tryd.underlying91 rfl (by rw [HVL.out]; exact size49) ?_; (case hc => rw [HV.out]; exact C_cells (Kd.C_below HCC.out HB.out)))
          | ((with_reducible refine gate_ (.store 91 (.tmp 22) (.tmp 21)) rfl ?_); refine wpList_store_mid rfl 91 (.tmp 22) (.tmp 21) rfl gb (i.toNat * 256) V.toArray rfl rfl ?ht (by rw [List.size_toArray, HVL.out]; exact size49) (all_oneCell_toArray (by rw [HV.out]; exact byteCells_one _)) ?_; (case ht => rw [List.size_toArray, HVL.out]; exact fun j hj => by have := HT.out (i.toNat * 256 + j) (by have := HI.out; omega); rwa [Nat.zero_add] at this)))
        go_roundg k1
        case measure => omega
        case rel =>
          have hi := HI.out
          have e1 : i.toNat * 256 = (i * 256).toNat := by omega
          have e2 : byteCells (nv.take ((i + 1) * 256).toNat) = byteCells (nv.take (i * 256).toNat) ++ V := by
            rw [HV.out]
            unfold byteCells
            rw [← List.map_append, show ((i + 1) * 256).toNat = (i * 256).toNat + 256 by omega, List.take_add]
          have e3 : (byteCells (nv.take (i * 256).toNat)).length = i.toNat * 256 := by rw [byteCells_len, List.length_take, HL.out]; omega
          refine ⟨i + 1, rfl, ⟨by omega, by omega⟩, ⟨World.there_setCells HT.out _ _ _⟩, ⟨?_⟩, ⟨below_setCells HB.out GB.out _⟩⟩
          rw [e2]
          refine range_append (World.rangeAt_setCells_apart HR.out _ _ _ (.inr (.inl (by omega)))) ?_
          rw [e3, Nat.zero_add]
          exact World.rangeAt_setCells_same wr gb _ _ (fun j hj => by have := HT.out (i.toNat * 256 + j) (by have := HVL.out; omega); rwa [Nat.zero_add] at this)
  · have hne : ((nv.length : Int) != 512) = true := by simp; omega
    have HL := Aside0.mk hl
    have HZL := Aside0.mk hZl
    have HZ := Aside0.mk hZ
    clear hl hZl hZ hr0 hc0
    go_enter Tryd.func65, Tryd.ntmps65
    go_wp2_with (first
      | ((with_reducible refine gate_dst (N := 2) rfl ?_); refine box_event ?hg (N := 2) ?hd (cs := Z.toArray) (t := 92) ?hr ?_; (case hd => rfl); (case hg => rfl); (case hr => have hZ2 := HZ.out; first | (go_simp; done) | (go_simp; rfl)); intro gb hg w1 hbox hb; have BK := Aside0.mk hbox; have HB := Aside0.mk hb; have GB := Aside0.mk (show w.heap.size ≤ gb from hg ▸ Nat.le_refl _); clear hbox hb hg)
      | ((with_reducible refine gate_dst (N := 8) rfl ?_); refine wpList_load_any rfl 92 (.tmp 2) rfl ⟨gb, 0, none⟩ rfl Z (.array 2 91) (fun j v h => by rw [Addr.add_mid, blk_cell BK.out]; simpa using h) Tryd.underlying92 rfl (by rw [HZL.out]; exact size50) ?_)
      | ((with_reducible refine gate_ (.store 92 (.tmp 2) (.tmp 8)) rfl ?_); refine wpList_store_mid rfl 92 (.tmp 2) (.tmp 8) rfl gb 0 Z.toArray rfl rfl ?ht (by rw [List.size_toArray, HZL.out]; exact size50) (all_oneCell_toArray (by rw [HZ.out]; exact byteCells_one _)) ?_; (case ht => exact fun j hj => ⟨by rw [blk_cell BK.out]; simp at hj ⊢; omega, blk_frozen BK.out _⟩)))
    have hS := Aside0.mk (show (w1.setCells gb 0 Z).rangeAt gb 0 Z from World.rangeAt_setCells_same w1 gb 0 _ (fun j hj => ⟨by rw [blk_cell BK.out]; simp; omega, blk_frozen BK.out _⟩))
    refine bodyPost_ret (v := .tuple #[.agg Z.toArray, .bool false]) ?_ rfl ⟨?_, below_setCells HB.out GB.out _⟩
    · exact results_arr (p := 2) (u := 3) (ty := 92) (v := .bool false) rfl _ _ ⟨gb, 0, none⟩ rfl rfl Z (.array 2 91) (fun j v h => by rw [Addr.add_mid]; exact hS.out j v h) Tryd.underlying92 rfl (by rw [HZL.out]; exact size50)
    · unfold bothF
      rw [if_neg HL.out, ← HZ.out, decide_eq_false HL.out]
end Go.Proofs.YtefhngadeimklaaDoor.Q
end
section
namespace Go.Proofs.YtefhngadeimklaaDoor.Q
open Go.RowKit Go.Proofs.YtefhngadeimklaaDoorW.PrintWords Go.Proofs.YtefhngadeimklaaDoorW.PrintLast Go.Proofs.YtefhngadeimklaaDoorW.PrintMore
def countsF (L : List Int) : Int :=
  if (dataF (L.drop 256)).2 = true ∧ ((dataF (L.take 256)).2 = false ∨ rd L 257 = (rd L 1 + 1) % 256) then 1 else if (dataF (L.take 256)).2 = true then 0 else -1
theorem wrap_u8 (n : Int) : IntKind.u8.wrap n = n % 256 := by simp [IntKind.wrap, IntKind.bits, IntKind.signed]
def nv_Bytes (L : List Int) : Prop := ∀ a ∈ L, 0 ≤ a ∧ a < 256
theorem nv_Bytes.take {L : List Int} (h : nv_Bytes L) (n : Nat) : nv_Bytes (L.take n) := fun a ha => h a (List.mem_of_mem_take ha)
theorem nv_Bytes.drop {L : List Int} (h : nv_Bytes L) (n : Nat) : nv_Bytes (L.drop n) := fun a ha => h a (List.mem_of_mem_drop ha)
set_option maxHeartbeats 8000000 in
set_option maxRecDepth 100000 in
theorem counts_calls (b : Nat) (L : List Int) (w : World) (hL : Kd.C (Kd.int .u8) w (some ⟨b, 0, none⟩) 512 L) (hr : nv_Bytes L) :
    Calls Tryd.prog 66 #[.pointer (some ⟨b, 0, none⟩)] w fun e w' => e = .returned (.int .i64 (countsF L)) ∧ Below w.heap.size w w' := by
  have hl := Kd.C_len hL
  have hA : Kd.C (Kd.int .u8) w (some ⟨b, 0, none⟩) 256 (L.take 256) := C_cut hL (c := 1000) (by omega) 0 256 (by omega)
  have hB : Kd.C (Kd.int .u8) w (some ⟨b, 256, none⟩) 256 (L.drop 256) := by
    have h : Kd.C (Kd.int .u8) w (some ⟨b, 256, none⟩) 256 ((L.drop 256).take 256) := C_cut hL (c := 1000) (by omega) 256 256 (by omega)
    rwa [List.take_of_length_le (by rw [List.length_drop]; omega)] at h
  have hz : ∀ i : Nat, i < 512 → w.cell? ⟨b, i, none⟩ = some (.int .u8 (rd L i)) := fun i h => by
    obtain ⟨ad', ea, h2⟩ := Kd.at_int hL (i : Int) (by omega) (by omega)
    cases ea
    rw [Int.toNat_natCast, Addr.add_mid, Nat.zero_add] at h2
    exact h2
  have h257 := Aside0.mk (show w.cell? ⟨b, 257, none⟩ = some (.int .u8 (rd L 257)) from hz 257 (by omega))
  have h1 := Aside0.mk (show w.cell? ⟨b, 1, none⟩ = some (.int .u8 (rd L 1)) from hz 1 (by omega))
  have hbb : 0 ≤ rd L 1 ∧ rd L 1 < 256 := by
    have : rd L 1 = L[1]'(by omega) := by simp [rd, List.getD_eq_getElem?_getD, List.getElem?_eq_getElem (show 1 < L.length by omega)]
    rw [this]
    exact hr _ (List.getElem_mem _)
  have HA := Aside0.mk hA
  have HB0 := Aside0.mk hB
  have HRA := Aside0.mk (hr.take 256)
  have HRB := Aside0.mk (hr.drop 256)
  obtain ⟨R, hR⟩ : ∃ R, R = countsF L := ⟨_, rfl⟩
  rw [← hR]
  unfold countsF at hR
  obtain ⟨x, hx⟩ : ∃ x, x = (dataF (L.take 256)).2 := ⟨_, rfl⟩
  obtain ⟨y, hy⟩ : ∃ y, y = (dataF (L.drop 256)).2 := ⟨_, rfl⟩
  rw [← hx, ← hy] at hR
  have HDA := Aside0.mk (show ∀ W : World, Kd.C (Kd.int .u8) W (some ⟨b, 0, none⟩) 256 (L.take 256) → Calls Tryd.prog 73 #[.pointer (some ⟨b, 0, none⟩)] W (fun e w' => ∃ v : Value, e = .returned (.tuple #[v, .bool x]) ∧ Below W.heap.size W w') from fun W h => by
    rw [hx]
    refine (data_calls b 0 (L.take 256) W h HRA.out).mono ?_
    rintro e w' ⟨A, c, rfl, -, -, hb⟩
    exact ⟨_, rfl, hb⟩)
  have HDB := Aside0.mk (show ∀ W : World, Kd.C (Kd.int .u8) W (some ⟨b, 256, none⟩) 256 (L.drop 256) → Calls Tryd.prog 73 #[.pointer (some ⟨b, 256, none⟩)] W (fun e w' => ∃ v : Value, e = .returned (.tuple #[v, .bool y]) ∧ Below W.heap.size W w') from fun W h => by
    rw [hy]
    refine (data_calls b 256 (L.drop 256) W h HRB.out).mono ?_
    rintro e w' ⟨A, c, rfl, -, -, hb⟩
    exact ⟨_, rfl, hb⟩)
  have HR := Aside0.mk hR
  have HBB := Aside0.mk hbb
  clear hA hB hl hL hr hR hx hy hz hbb
  cases y
  · cases x
    · go_enter Tryd.func66, Tryd.ntmps66
      go_wp2_with (first
        | (go_at_call 73; (with_reducible refine (HDA.out _ ?ca).mono ?_); (case ca => exact HA.out); rintro e w1 ⟨va, rfl, hb⟩; have HB := Aside0.mk (below_step (Below.refl _ _) hb); clear hb)
        | (go_at_call 73; (with_reducible refine (HDB.out _ ?cb).mono ?_); (case cb => exact Kd.C_below HB0.out HB.out); rintro e w2 ⟨vb, rfl, hb⟩; have HB2 := Aside0.mk (below_step HB.out hb); clear hb HB))
      have hz257 := (HB2.out.cell (World.block_lt_of_cell? w _ h257.out)).trans h257.out
      have hz1 := (HB2.out.cell (World.block_lt_of_cell? w _ h1.out)).trans h1.out
      refine start_ (n := 20) (S := fun w' => w'.cell? ⟨b, 257, none⟩ = some (.int .u8 (rd L 257)) ∧ w'.cell? ⟨b, 1, none⟩ = some (.int .u8 (rd L 1))) (ds := []) #[false, false, false, false, false, false, false, false, false, false, false, false, false, false, false, false, false, false, false, false] (by kernel_rfl) rfl rfl ⟨hz257, hz1⟩ (fun hHeld => ?_)
      refine pure_ (i := 0) (N := some 22) (v := ?_) (a' := ?_) #[true, false, false, false, false, false, false, false, false, false, false, false, false, false, false, false, false, false, false, false] rfl rfl (by kernel_rfl) (fun _ _ _ h => h) (Or.inl ⟨by rfl, ?_⟩) ?_ ?_
      rotate_left
      · intro w'
        go_simp
        with_reducible rfl
      rotate_left
      · simp only [Act.put, List.setIfInBounds_toArray, List.set_cons_zero, List.set_cons_succ]
        rfl
      refine pure_ (i := 1) (N := some 23) (v := ?_) (a' := ?_) #[true, true, false, false, false, false, false, false, false, false, false, false, false, false, false, false, false, false, false, false] rfl rfl (by kernel_rfl) (fun _ _ _ h => h) (Or.inl ⟨by rfl, ?_⟩) ?_ ?_
      rotate_left
      · intro w'
        go_simp
        with_reducible rfl
      rotate_left
      · simp only [Act.put, List.setIfInBounds_toArray, List.set_cons_zero, List.set_cons_succ]
        rfl
      refine pure_ (i := 2) (N := some 24) (v := undef) (a' := ?_) #[true, true, true, false, false, false, false, false, false, false, false, false, false, false, false, false, false, false, false, false] rfl rfl (by kernel_rfl) (fun _ _ _ h => h) (Or.inr ⟨by rfl, rfl⟩) ?_ ?_
      rotate_left
      · simp only [Act.put, List.setIfInBounds_toArray, List.set_cons_zero, List.set_cons_succ]
        rfl
      refine pure_ (i := 3) (N := some 25) (v := undef) (a' := ?_) #[true, true, true, true, false, false, false, false, false, false, false, false, false, false, false, false, false, false, false, false] rfl rfl (by kernel_rfl) (fun _ _ _ h => h) (Or.inr ⟨by rfl, rfl⟩) ?_ ?_
      rotate_left
      · simp only [Act.put, List.setIfInBounds_toArray, List.set_cons_zero, List.set_cons_succ]
        rfl
      refine pure_ (i := 4) (N := some 26) (v := undef) (a' := ?_) #[true, true, true, true, true, false, false, false, false, false, false, false, false, false, false, false, false, false, false, false] rfl rfl (by kernel_rfl) (fun _ _ _ h => h) (Or.inr ⟨by rfl, rfl⟩) ?_ ?_
      rotate_left
      · simp only [Act.put, List.setIfInBounds_toArray, List.set_cons_zero, List.set_cons_succ]
        rfl
      refine pure_ (i := 5) (N := some 27) (v := undef) (a' := ?_) #[true, true, true, true, true, true, false, false, false, false, false, false, false, false, false, false, false, false, false, false] rfl rfl (by kernel_rfl) (fun _ _ _ h => h) (Or.inr ⟨by rfl, rfl⟩) ?_ ?_
      rotate_left
      · simp only [Act.put, List.setIfInBounds_toArray, List.set_cons_zero, List.set_cons_succ]
        rfl
      refine pure_ (i := 6) (N := some 28) (v := undef) (a' := ?_) #[true, true, true, true, true, true, true, false, false, false, false, false, false, false, false, false, false, false, false, false] rfl rfl (by kernel_rfl) (fun _ _ _ h => h) (Or.inr ⟨by rfl, rfl⟩) ?_ ?_
      rotate_left
      · simp only [Act.put, List.setIfInBounds_toArray, List.set_cons_zero, List.set_cons_succ]
        rfl
      refine pure_ (i := 7) (N := some 29) (v := undef) (a' := ?_) #[true, true, true, true, true, true, true, true, false, false, false, false, false, false, false, false, false, false, false, false] rfl rfl (by kernel_rfl) (fun _ _ _ h => h) (Or.inr ⟨by rfl, rfl⟩) ?_ ?_
      rotate_left
      · simp only [Act.put, List.setIfInBounds_toArray, List.set_cons_zero, List.set_cons_succ]
        rfl
      refine pure_ (i := 8) (N := some 30) (v := undef) (a' := ?_) #[true, true, true, true, true, true, true, true, true, false, false, false, false, false, false, false, false, false, false, false] rfl rfl (by kernel_rfl) (fun _ _ _ h => h) (Or.inr ⟨by rfl, rfl⟩) ?_ ?_
      rotate_left
      · simp only [Act.put, List.setIfInBounds_toArray, List.set_cons_zero, List.set_cons_succ]
        rfl
      refine pure_ (i := 9) (N := some 31) (v := undef) (a' := ?_) #[true, true, true, true, true, true, true, true, true, true, false, false, false, false, false, false, false, false, false, false] rfl rfl (by kernel_rfl) (fun _ _ _ h => h) (Or.inr ⟨by rfl, rfl⟩) ?_ ?_
      rotate_left
      · simp only [Act.put, List.setIfInBounds_toArray, List.set_cons_zero, List.set_cons_succ]
        rfl
      refine pure_ (i := 10) (N := some 32) (v := undef) (a' := ?_) #[true, true, true, true, true, true, true, true, true, true, true, false, false, false, false, false, false, false, false, false] rfl rfl (by kernel_rfl) (fun _ _ _ h => h) (Or.inr ⟨by rfl, rfl⟩) ?_ ?_
      rotate_left
      · simp only [Act.put, List.setIfInBounds_toArray, List.set_cons_zero, List.set_cons_succ]
        rfl
      refine pure_ (i := 11) (N := some 33) (v := undef) (a' := ?_) #[true, true, true, true, true, true, true, true, true, true, true, true, false, false, false, false, false, false, false, false] rfl rfl (by kernel_rfl) (fun _ _ _ h => h) (Or.inr ⟨by rfl, rfl⟩) ?_ ?_
      rotate_left
      · simp only [Act.put, List.setIfInBounds_toArray, List.set_cons_zero, List.set_cons_succ]
        rfl
      refine pure_ (i := 12) (N := some 34) (v := undef) (a' := ?_) #[true, true, true, true, true, true, true, true, true, true, true, true, true, false, false, false, false, false, false, false] rfl rfl (by kernel_rfl) (fun _ _ _ h => h) (Or.inr ⟨by rfl, rfl⟩) ?_ ?_
      rotate_left
      · simp only [Act.put, List.setIfInBounds_toArray, List.set_cons_zero, List.set_cons_succ]
        rfl
      refine pure_ (i := 13) (N := some 35) (v := undef) (a' := ?_) #[true, true, true, true, true, true, true, true, true, true, true, true, true, true, false, false, false, false, false, false] rfl rfl (by kernel_rfl) (fun _ _ _ h => h) (Or.inr ⟨by rfl, rfl⟩) ?_ ?_
      rotate_left
      · simp only [Act.put, List.setIfInBounds_toArray, List.set_cons_zero, List.set_cons_succ]
        rfl
      refine pure_ (i := 14) (N := some 36) (v := undef) (a' := ?_) #[true, true, true, true, true, true, true, true, true, true, true, true, true, true, true, false, false, false, false, false] rfl rfl (by kernel_rfl) (fun _ _ _ h => h) (Or.inr ⟨by rfl, rfl⟩) ?_ ?_
      rotate_left
      · simp only [Act.put, List.setIfInBounds_toArray, List.set_cons_zero, List.set_cons_succ]
        rfl
      refine pure_ (i := 15) (N := some 37) (v := undef) (a' := ?_) #[true, true, true, true, true, true, true, true, true, true, true, true, true, true, true, true, false, false, false, false] rfl rfl (by kernel_rfl) (fun _ _ _ h => h) (Or.inr ⟨by rfl, rfl⟩) ?_ ?_
      rotate_left
      · simp only [Act.put, List.setIfInBounds_toArray, List.set_cons_zero, List.set_cons_succ]
        rfl
      refine pure_ (i := 16) (N := some 38) (v := undef) (a' := ?_) #[true, true, true, true, true, true, true, true, true, true, true, true, true, true, true, true, true, false, false, false] rfl rfl (by kernel_rfl) (fun _ _ _ h => h) (Or.inr ⟨by rfl, rfl⟩) ?_ ?_
      rotate_left
      · simp only [Act.put, List.setIfInBounds_toArray, List.set_cons_zero, List.set_cons_succ]
        rfl
      refine pure_ (i := 17) (N := some 39) (v := undef) (a' := ?_) #[true, true, true, true, true, true, true, true, true, true, true, true, true, true, true, true, true, true, false, false] rfl rfl (by kernel_rfl) (fun _ _ _ h => h) (Or.inr ⟨by rfl, rfl⟩) ?_ ?_
      rotate_left
      · simp only [Act.put, List.setIfInBounds_toArray, List.set_cons_zero, List.set_cons_succ]
        rfl
      refine pure_ (i := 18) (N := some 40) (v := ?_) (a' := ?_) #[true, true, true, true, true, true, true, true, true, true, true, true, true, true, true, true, true, true, true, false] rfl rfl (by kernel_rfl) (fun _ _ _ h => h) (Or.inl ⟨by rfl, ?_⟩) ?_ ?_
      rotate_left
      · intro w'
        go_simp
        with_reducible rfl
      rotate_left
      · simp only [Act.put, List.setIfInBounds_toArray, List.set_cons_zero, List.set_cons_succ]
        rfl
      refine pure_ (i := 19) (N := some 21) (v := ?_) (a' := ?_) #[true, true, true, true, true, true, true, true, true, true, true, true, true, true, true, true, true, true, true, true] rfl rfl (by kernel_rfl) (fun _ _ _ h => h) (Or.inl ⟨by rfl, ?_⟩) ?_ ?_
      rotate_left
      · intro w'
        go_simp
        with_reducible rfl
      rotate_left
      · simp only [Act.put, List.setIfInBounds_toArray, List.set_cons_zero, List.set_cons_succ]
        rfl
      refine done_ (n := 0) (by kernel_rfl) ?_
      go_wp2
      go_ret
      exact ⟨by rw [HR.out]; rfl, below_drew HB2.out⟩
    · go_enter Tryd.func66, Tryd.ntmps66
      go_wp2_with (first
        | (go_at_call 73; (with_reducible refine (HDA.out _ ?ca).mono ?_); (case ca => exact HA.out); rintro e w1 ⟨va, rfl, hb⟩; have HB := Aside0.mk (below_step (Below.refl _ _) hb); clear hb)
        | (go_at_call 73; (with_reducible refine (HDB.out _ ?cb).mono ?_); (case cb => exact Kd.C_below HB0.out HB.out); rintro e w2 ⟨vb, rfl, hb⟩; have HB2 := Aside0.mk (below_step HB.out hb); clear hb HB))
      have hz257 := (HB2.out.cell (World.block_lt_of_cell? w _ h257.out)).trans h257.out
      have hz1 := (HB2.out.cell (World.block_lt_of_cell? w _ h1.out)).trans h1.out
      refine start_ (n := 20) (S := fun w' => w'.cell? ⟨b, 257, none⟩ = some (.int .u8 (rd L 257)) ∧ w'.cell? ⟨b, 1, none⟩ = some (.int .u8 (rd L 1))) (ds := []) #[false, false, false, false, false, false, false, false, false, false, false, false, false, false, false, false, false, false, false, false] (by kernel_rfl) rfl rfl ⟨hz257, hz1⟩ (fun hHeld => ?_)
      refine pure_ (i := 0) (N := some 22) (v := ?_) (a' := ?_) #[true, false, false, false, false, false, false, false, false, false, false, false, false, false, false, false, false, false, false, false] rfl rfl (by kernel_rfl) (fun _ _ _ h => h) (Or.inl ⟨by rfl, ?_⟩) ?_ ?_
      rotate_left
      · intro w'
        go_simp
        with_reducible rfl
      rotate_left
      · simp only [Act.put, List.setIfInBounds_toArray, List.set_cons_zero, List.set_cons_succ]
        rfl
      refine pure_ (i := 1) (N := some 23) (v := ?_) (a' := ?_) #[true, true, false, false, false, false, false, false, false, false, false, false, false, false, false, false, false, false, false, false] rfl rfl (by kernel_rfl) (fun _ _ _ h => h) (Or.inl ⟨by rfl, ?_⟩) ?_ ?_
      rotate_left
      · intro w'
        go_simp
        with_reducible rfl
      rotate_left
      · simp only [Act.put, List.setIfInBounds_toArray, List.set_cons_zero, List.set_cons_succ]
        rfl
      refine pure_ (i := 2) (N := some 24) (v := undef) (a' := ?_) #[true, true, true, false, false, false, false, false, false, false, false, false, false, false, false, false, false, false, false, false] rfl rfl (by kernel_rfl) (fun _ _ _ h => h) (Or.inr ⟨by rfl, rfl⟩) ?_ ?_
      rotate_left
      · simp only [Act.put, List.setIfInBounds_toArray, List.set_cons_zero, List.set_cons_succ]
        rfl
      refine pure_ (i := 3) (N := some 25) (v := undef) (a' := ?_) #[true, true, true, true, false, false, false, false, false, false, false, false, false, false, false, false, false, false, false, false] rfl rfl (by kernel_rfl) (fun _ _ _ h => h) (Or.inr ⟨by rfl, rfl⟩) ?_ ?_
      rotate_left
      · simp only [Act.put, List.setIfInBounds_toArray, List.set_cons_zero, List.set_cons_succ]
        rfl
      refine pure_ (i := 4) (N := some 26) (v := undef) (a' := ?_) #[true, true, true, true, true, false, false, false, false, false, false, false, false, false, false, false, false, false, false, false] rfl rfl (by kernel_rfl) (fun _ _ _ h => h) (Or.inr ⟨by rfl, rfl⟩) ?_ ?_
      rotate_left
      · simp only [Act.put, List.setIfInBounds_toArray, List.set_cons_zero, List.set_cons_succ]
        rfl
      refine pure_ (i := 5) (N := some 27) (v := undef) (a' := ?_) #[true, true, true, true, true, true, false, false, false, false, false, false, false, false, false, false, false, false, false, false] rfl rfl (by kernel_rfl) (fun _ _ _ h => h) (Or.inr ⟨by rfl, rfl⟩) ?_ ?_
      rotate_left
      · simp only [Act.put, List.setIfInBounds_toArray, List.set_cons_zero, List.set_cons_succ]
        rfl
      refine pure_ (i := 6) (N := some 28) (v := undef) (a' := ?_) #[true, true, true, true, true, true, true, false, false, false, false, false, false, false, false, false, false, false, false, false] rfl rfl (by kernel_rfl) (fun _ _ _ h => h) (Or.inr ⟨by rfl, rfl⟩) ?_ ?_
      rotate_left
      · simp only [Act.put, List.setIfInBounds_toArray, List.set_cons_zero, List.set_cons_succ]
        rfl
      refine pure_ (i := 7) (N := some 29) (v := undef) (a' := ?_) #[true, true, true, true, true, true, true, true, false, false, false, false, false, false, false, false, false, false, false, false] rfl rfl (by kernel_rfl) (fun _ _ _ h => h) (Or.inr ⟨by rfl, rfl⟩) ?_ ?_
      rotate_left
      · simp only [Act.put, List.setIfInBounds_toArray, List.set_cons_zero, List.set_cons_succ]
        rfl
      refine pure_ (i := 8) (N := some 30) (v := undef) (a' := ?_) #[true, true, true, true, true, true, true, true, true, false, false, false, false, false, false, false, false, false, false, false] rfl rfl (by kernel_rfl) (fun _ _ _ h => h) (Or.inr ⟨by rfl, rfl⟩) ?_ ?_
      rotate_left
      · simp only [Act.put, List.setIfInBounds_toArray, List.set_cons_zero, List.set_cons_succ]
        rfl
      refine pure_ (i := 9) (N := some 31) (v := undef) (a' := ?_) #[true, true, true, true, true, true, true, true, true, true, false, false, false, false, false, false, false, false, false, false] rfl rfl (by kernel_rfl) (fun _ _ _ h => h) (Or.inr ⟨by rfl, rfl⟩) ?_ ?_
      rotate_left
      · simp only [Act.put, List.setIfInBounds_toArray, List.set_cons_zero, List.set_cons_succ]
        rfl
      refine pure_ (i := 10) (N := some 32) (v := undef) (a' := ?_) #[true, true, true, true, true, true, true, true, true, true, true, false, false, false, false, false, false, false, false, false] rfl rfl (by kernel_rfl) (fun _ _ _ h => h) (Or.inr ⟨by rfl, rfl⟩) ?_ ?_
      rotate_left
      · simp only [Act.put, List.setIfInBounds_toArray, List.set_cons_zero, List.set_cons_succ]
        rfl
      refine pure_ (i := 11) (N := some 33) (v := undef) (a' := ?_) #[true, true, true, true, true, true, true, true, true, true, true, true, false, false, false, false, false, false, false, false] rfl rfl (by kernel_rfl) (fun _ _ _ h => h) (Or.inr ⟨by rfl, rfl⟩) ?_ ?_
      rotate_left
      · simp only [Act.put, List.setIfInBounds_toArray, List.set_cons_zero, List.set_cons_succ]
        rfl
      refine pure_ (i := 12) (N := some 34) (v := undef) (a' := ?_) #[true, true, true, true, true, true, true, true, true, true, true, true, true, false, false, false, false, false, false, false] rfl rfl (by kernel_rfl) (fun _ _ _ h => h) (Or.inr ⟨by rfl, rfl⟩) ?_ ?_
      rotate_left
      · simp only [Act.put, List.setIfInBounds_toArray, List.set_cons_zero, List.set_cons_succ]
        rfl
      refine pure_ (i := 13) (N := some 35) (v := undef) (a' := ?_) #[true, true, true, true, true, true, true, true, true, true, true, true, true, true, false, false, false, false, false, false] rfl rfl (by kernel_rfl) (fun _ _ _ h => h) (Or.inr ⟨by rfl, rfl⟩) ?_ ?_
      rotate_left
      · simp only [Act.put, List.setIfInBounds_toArray, List.set_cons_zero, List.set_cons_succ]
        rfl
      refine pure_ (i := 14) (N := some 36) (v := undef) (a' := ?_) #[true, true, true, true, true, true, true, true, true, true, true, true, true, true, true, false, false, false, false, false] rfl rfl (by kernel_rfl) (fun _ _ _ h => h) (Or.inr ⟨by rfl, rfl⟩) ?_ ?_
      rotate_left
      · simp only [Act.put, List.setIfInBounds_toArray, List.set_cons_zero, List.set_cons_succ]
        rfl
      refine pure_ (i := 15) (N := some 37) (v := undef) (a' := ?_) #[true, true, true, true, true, true, true, true, true, true, true, true, true, true, true, true, false, false, false, false] rfl rfl (by kernel_rfl) (fun _ _ _ h => h) (Or.inr ⟨by rfl, rfl⟩) ?_ ?_
      rotate_left
      · simp only [Act.put, List.setIfInBounds_toArray, List.set_cons_zero, List.set_cons_succ]
        rfl
      refine pure_ (i := 16) (N := some 38) (v := undef) (a' := ?_) #[true, true, true, true, true, true, true, true, true, true, true, true, true, true, true, true, true, false, false, false] rfl rfl (by kernel_rfl) (fun _ _ _ h => h) (Or.inr ⟨by rfl, rfl⟩) ?_ ?_
      rotate_left
      · simp only [Act.put, List.setIfInBounds_toArray, List.set_cons_zero, List.set_cons_succ]
        rfl
      refine pure_ (i := 17) (N := some 39) (v := undef) (a' := ?_) #[true, true, true, true, true, true, true, true, true, true, true, true, true, true, true, true, true, true, false, false] rfl rfl (by kernel_rfl) (fun _ _ _ h => h) (Or.inr ⟨by rfl, rfl⟩) ?_ ?_
      rotate_left
      · simp only [Act.put, List.setIfInBounds_toArray, List.set_cons_zero, List.set_cons_succ]
        rfl
      refine pure_ (i := 18) (N := some 40) (v := ?_) (a' := ?_) #[true, true, true, true, true, true, true, true, true, true, true, true, true, true, true, true, true, true, true, false] rfl rfl (by kernel_rfl) (fun _ _ _ h => h) (Or.inl ⟨by rfl, ?_⟩) ?_ ?_
      rotate_left
      · intro w'
        go_simp
        with_reducible rfl
      rotate_left
      · simp only [Act.put, List.setIfInBounds_toArray, List.set_cons_zero, List.set_cons_succ]
        rfl
      refine pure_ (i := 19) (N := some 21) (v := ?_) (a' := ?_) #[true, true, true, true, true, true, true, true, true, true, true, true, true, true, true, true, true, true, true, true] rfl rfl (by kernel_rfl) (fun _ _ _ h => h) (Or.inl ⟨by rfl, ?_⟩) ?_ ?_
      rotate_left
      · intro w'
        go_simp
        with_reducible rfl
      rotate_left
      · simp only [Act.put, List.setIfInBounds_toArray, List.set_cons_zero, List.set_cons_succ]
        rfl
      refine done_ (n := 0) (by kernel_rfl) ?_
      go_wp2
      go_ret
      exact ⟨by rw [HR.out]; rfl, below_drew HB2.out⟩
  · cases x
    · go_enter Tryd.func66, Tryd.ntmps66
      go_wp2_with (first
        | (go_at_call 73; (with_reducible refine (HDA.out _ ?ca).mono ?_); (case ca => exact HA.out); rintro e w1 ⟨va, rfl, hb⟩; have HB := Aside0.mk (below_step (Below.refl _ _) hb); clear hb)
        | (go_at_call 73; (with_reducible refine (HDB.out _ ?cb).mono ?_); (case cb => exact Kd.C_below HB0.out HB.out); rintro e w2 ⟨vb, rfl, hb⟩; have HB2 := Aside0.mk (below_step HB.out hb); clear hb HB))
      have hz257 := (HB2.out.cell (World.block_lt_of_cell? w _ h257.out)).trans h257.out
      have hz1 := (HB2.out.cell (World.block_lt_of_cell? w _ h1.out)).trans h1.out
      refine start_ (n := 20) (S := fun w' => w'.cell? ⟨b, 257, none⟩ = some (.int .u8 (rd L 257)) ∧ w'.cell? ⟨b, 1, none⟩ = some (.int .u8 (rd L 1))) (ds := []) #[false, false, false, false, false, false, false, false, false, false, false, false, false, false, false, false, false, false, false, false] (by kernel_rfl) rfl rfl ⟨hz257, hz1⟩ (fun hHeld => ?_)
      refine pure_ (i := 0) (N := some 22) (v := ?_) (a' := ?_) #[true, false, false, false, false, false, false, false, false, false, false, false, false, false, false, false, false, false, false, false] rfl rfl (by kernel_rfl) (fun _ _ _ h => h) (Or.inl ⟨by rfl, ?_⟩) ?_ ?_
      rotate_left
      · intro w'
        go_simp
        with_reducible rfl
      rotate_left
      · simp only [Act.put, List.setIfInBounds_toArray, List.set_cons_zero, List.set_cons_succ]
        rfl
      refine pure_ (i := 1) (N := some 23) (v := ?_) (a' := ?_) #[true, true, false, false, false, false, false, false, false, false, false, false, false, false, false, false, false, false, false, false] rfl rfl (by kernel_rfl) (fun _ _ _ h => h) (Or.inl ⟨by rfl, ?_⟩) ?_ ?_
      rotate_left
      · intro w'
        go_simp
        with_reducible rfl
      rotate_left
      · simp only [Act.put, List.setIfInBounds_toArray, List.set_cons_zero, List.set_cons_succ]
        rfl
      refine pure_ (i := 2) (N := some 24) (v := ?_) (a' := ?_) #[true, true, true, false, false, false, false, false, false, false, false, false, false, false, false, false, false, false, false, false] rfl rfl (by kernel_rfl) (fun _ _ _ h => h) (Or.inl ⟨by rfl, ?_⟩) ?_ ?_
      rotate_left
      · intro w'
        go_simp
        with_reducible rfl
      rotate_left
      · simp only [Act.put, List.setIfInBounds_toArray, List.set_cons_zero, List.set_cons_succ]
        rfl
      refine pure_ (i := 3) (N := some 25) (v := ?_) (a' := ?_) #[true, true, true, true, false, false, false, false, false, false, false, false, false, false, false, false, false, false, false, false] rfl rfl (by kernel_rfl) (fun _ _ _ h => h) (Or.inl ⟨by rfl, ?_⟩) ?_ ?_
      rotate_left
      · intro w'
        go_simp
        with_reducible rfl
      rotate_left
      · simp only [Act.put, List.setIfInBounds_toArray, List.set_cons_zero, List.set_cons_succ]
        rfl
      refine pure_ (i := 4) (N := some 26) (v := ?_) (a' := ?_) #[true, true, true, true, true, false, false, false, false, false, false, false, false, false, false, false, false, false, false, false] rfl rfl (by kernel_rfl) (fun _ _ _ h => h) (Or.inl ⟨by rfl, ?_⟩) ?_ ?_
      rotate_left
      · intro w'
        go_simp
        with_reducible rfl
      rotate_left
      · simp only [Act.put, List.setIfInBounds_toArray, List.set_cons_zero, List.set_cons_succ]
        rfl
      refine pure_ (i := 5) (N := some 27) (v := undef) (a' := ?_) #[true, true, true, true, true, true, false, false, false, false, false, false, false, false, false, false, false, false, false, false] rfl rfl (by kernel_rfl) (fun _ _ _ h => h) (Or.inr ⟨by rfl, rfl⟩) ?_ ?_
      rotate_left
      · simp only [Act.put, List.setIfInBounds_toArray, List.set_cons_zero, List.set_cons_succ]
        rfl
      refine pure_ (i := 6) (N := some 28) (v := undef) (a' := ?_) #[true, true, true, true, true, true, true, false, false, false, false, false, false, false, false, false, false, false, false, false] rfl rfl (by kernel_rfl) (fun _ _ _ h => h) (Or.inr ⟨by rfl, rfl⟩) ?_ ?_
      rotate_left
      · simp only [Act.put, List.setIfInBounds_toArray, List.set_cons_zero, List.set_cons_succ]
        rfl
      refine pure_ (i := 7) (N := some 29) (v := undef) (a' := ?_) #[true, true, true, true, true, true, true, true, false, false, false, false, false, false, false, false, false, false, false, false] rfl rfl (by kernel_rfl) (fun _ _ _ h => h) (Or.inr ⟨by rfl, rfl⟩) ?_ ?_
      rotate_left
      · simp only [Act.put, List.setIfInBounds_toArray, List.set_cons_zero, List.set_cons_succ]
        rfl
      refine pure_ (i := 8) (N := some 30) (v := undef) (a' := ?_) #[true, true, true, true, true, true, true, true, true, false, false, false, false, false, false, false, false, false, false, false] rfl rfl (by kernel_rfl) (fun _ _ _ h => h) (Or.inr ⟨by rfl, rfl⟩) ?_ ?_
      rotate_left
      · simp only [Act.put, List.setIfInBounds_toArray, List.set_cons_zero, List.set_cons_succ]
        rfl
      refine pure_ (i := 9) (N := some 31) (v := undef) (a' := ?_) #[true, true, true, true, true, true, true, true, true, true, false, false, false, false, false, false, false, false, false, false] rfl rfl (by kernel_rfl) (fun _ _ _ h => h) (Or.inr ⟨by rfl, rfl⟩) ?_ ?_
      rotate_left
      · simp only [Act.put, List.setIfInBounds_toArray, List.set_cons_zero, List.set_cons_succ]
        rfl
      refine pure_ (i := 10) (N := some 32) (v := undef) (a' := ?_) #[true, true, true, true, true, true, true, true, true, true, true, false, false, false, false, false, false, false, false, false] rfl rfl (by kernel_rfl) (fun _ _ _ h => h) (Or.inr ⟨by rfl, rfl⟩) ?_ ?_
      rotate_left
      · simp only [Act.put, List.setIfInBounds_toArray, List.set_cons_zero, List.set_cons_succ]
        rfl
      refine pure_ (i := 11) (N := some 33) (v := undef) (a' := ?_) #[true, true, true, true, true, true, true, true, true, true, true, true, false, false, false, false, false, false, false, false] rfl rfl (by kernel_rfl) (fun _ _ _ h => h) (Or.inr ⟨by rfl, rfl⟩) ?_ ?_
      rotate_left
      · simp only [Act.put, List.setIfInBounds_toArray, List.set_cons_zero, List.set_cons_succ]
        rfl
      refine pure_ (i := 12) (N := some 34) (v := undef) (a' := ?_) #[true, true, true, true, true, true, true, true, true, true, true, true, true, false, false, false, false, false, false, false] rfl rfl (by kernel_rfl) (fun _ _ _ h => h) (Or.inr ⟨by rfl, rfl⟩) ?_ ?_
      rotate_left
      · simp only [Act.put, List.setIfInBounds_toArray, List.set_cons_zero, List.set_cons_succ]
        rfl
      refine pure_ (i := 13) (N := some 35) (v := undef) (a' := ?_) #[true, true, true, true, true, true, true, true, true, true, true, true, true, true, false, false, false, false, false, false] rfl rfl (by kernel_rfl) (fun _ _ _ h => h) (Or.inr ⟨by rfl, rfl⟩) ?_ ?_
      rotate_left
      · simp only [Act.put, List.setIfInBounds_toArray, List.set_cons_zero, List.set_cons_succ]
        rfl
      refine pure_ (i := 14) (N := some 36) (v := undef) (a' := ?_) #[true, true, true, true, true, true, true, true, true, true, true, true, true, true, true, false, false, false, false, false] rfl rfl (by kernel_rfl) (fun _ _ _ h => h) (Or.inr ⟨by rfl, rfl⟩) ?_ ?_
      rotate_left
      · simp only [Act.put, List.setIfInBounds_toArray, List.set_cons_zero, List.set_cons_succ]
        rfl
      refine pure_ (i := 15) (N := some 37) (v := undef) (a' := ?_) #[true, true, true, true, true, true, true, true, true, true, true, true, true, true, true, true, false, false, false, false] rfl rfl (by kernel_rfl) (fun _ _ _ h => h) (Or.inr ⟨by rfl, rfl⟩) ?_ ?_
      rotate_left
      · simp only [Act.put, List.setIfInBounds_toArray, List.set_cons_zero, List.set_cons_succ]
        rfl
      refine pure_ (i := 16) (N := some 38) (v := undef) (a' := ?_) #[true, true, true, true, true, true, true, true, true, true, true, true, true, true, true, true, true, false, false, false] rfl rfl (by kernel_rfl) (fun _ _ _ h => h) (Or.inr ⟨by rfl, rfl⟩) ?_ ?_
      rotate_left
      · simp only [Act.put, List.setIfInBounds_toArray, List.set_cons_zero, List.set_cons_succ]
        rfl
      refine pure_ (i := 17) (N := some 39) (v := ?_) (a' := ?_) #[true, true, true, true, true, true, true, true, true, true, true, true, true, true, true, true, true, true, false, false] rfl rfl (by kernel_rfl) (fun _ _ _ h => h) (Or.inl ⟨by rfl, ?_⟩) ?_ ?_
      rotate_left
      · intro w'
        go_simp
        with_reducible rfl
      rotate_left
      · simp only [Act.put, List.setIfInBounds_toArray, List.set_cons_zero, List.set_cons_succ]
        rfl
      refine pure_ (i := 18) (N := some 40) (v := ?_) (a' := ?_) #[true, true, true, true, true, true, true, true, true, true, true, true, true, true, true, true, true, true, true, false] rfl rfl (by kernel_rfl) (fun _ _ _ h => h) (Or.inl ⟨by rfl, ?_⟩) ?_ ?_
      rotate_left
      · intro w'
        go_simp
        with_reducible rfl
      rotate_left
      · simp only [Act.put, List.setIfInBounds_toArray, List.set_cons_zero, List.set_cons_succ]
        rfl
      refine pure_ (i := 19) (N := some 21) (v := ?_) (a' := ?_) #[true, true, true, true, true, true, true, true, true, true, true, true, true, true, true, true, true, true, true, true] rfl rfl (by kernel_rfl) (fun _ _ _ h => h) (Or.inl ⟨by rfl, ?_⟩) ?_ ?_
      rotate_left
      · intro w'
        go_simp
        with_reducible rfl
      rotate_left
      · simp only [Act.put, List.setIfInBounds_toArray, List.set_cons_zero, List.set_cons_succ]
        rfl
      refine done_ (n := 0) (by kernel_rfl) ?_
      go_wp2
      go_ret
      exact ⟨by rw [HR.out]; rfl, below_drew HB2.out⟩
    · by_cases he : rd L 257 = (rd L 1 + 1) % 256
      · have hne : (rd L 257 == IntKind.u8.wrap (rd L 1 + 1)) = true := by rw [wrap_u8]; simp [he]
        have HE := Aside0.mk he
        clear he
        go_enter Tryd.func66, Tryd.ntmps66
        go_wp2_with (first
          | (go_at_call 73; (with_reducible refine (HDA.out _ ?ca).mono ?_); (case ca => exact HA.out); rintro e w1 ⟨va, rfl, hb⟩; have HB := Aside0.mk (below_step (Below.refl _ _) hb); clear hb)
          | (go_at_call 73; (with_reducible refine (HDB.out _ ?cb).mono ?_); (case cb => exact Kd.C_below HB0.out HB.out); rintro e w2 ⟨vb, rfl, hb⟩; have HB2 := Aside0.mk (below_step HB.out hb); clear hb HB))
        have hz257 := (HB2.out.cell (World.block_lt_of_cell? w _ h257.out)).trans h257.out
        have hz1 := (HB2.out.cell (World.block_lt_of_cell? w _ h1.out)).trans h1.out
        refine start_ (n := 20) (S := fun w' => w'.cell? ⟨b, 257, none⟩ = some (.int .u8 (rd L 257)) ∧ w'.cell? ⟨b, 1, none⟩ = some (.int .u8 (rd L 1))) (ds := []) #[false, false, false, false, false, false, false, false, false, false, false, false, false, false, false, false, false, false, false, false] (by kernel_rfl) rfl rfl ⟨hz257, hz1⟩ (fun hHeld => ?_)
        refine pure_ (i := 0) (N := some 22) (v := ?_) (a' := ?_) #[true, false, false, false, false, false, false, false, false, false, false, false, false, false, false, false, false, false, false, false] rfl rfl (by kernel_rfl) (fun _ _ _ h => h) (Or.inl ⟨by rfl, ?_⟩) ?_ ?_
        rotate_left
        · intro w'
          go_simp
          with_reducible rfl
        rotate_left
        · simp only [Act.put, List.setIfInBounds_toArray, List.set_cons_zero, List.set_cons_succ]
          rfl
        refine pure_ (i := 1) (N := some 23) (v := ?_) (a' := ?_) #[true, true, false, false, false, false, false, false, false, false, false, false, false, false, false, false, false, false, false, false] rfl rfl (by kernel_rfl) (fun _ _ _ h => h) (Or.inl ⟨by rfl, ?_⟩) ?_ ?_
        rotate_left
        · intro w'
          go_simp
          with_reducible rfl
        rotate_left
        · simp only [Act.put, List.setIfInBounds_toArray, List.set_cons_zero, List.set_cons_succ]
          rfl
        refine pure_ (i := 2) (N := some 24) (v := ?_) (a' := ?_) #[true, true, true, false, false, false, false, false, false, false, false, false, false, false, false, false, false, false, false, false] rfl rfl (by kernel_rfl) (fun _ _ _ h => h) (Or.inl ⟨by rfl, ?_⟩) ?_ ?_
        rotate_left
        · intro w'
          go_simp
          with_reducible rfl
        rotate_left
        · simp only [Act.put, List.setIfInBounds_toArray, List.set_cons_zero, List.set_cons_succ]
          rfl
        refine pure_ (i := 3) (N := some 25) (v := ?_) (a' := ?_) #[true, true, true, true, false, false, false, false, false, false, false, false, false, false, false, false, false, false, false, false] rfl rfl (by kernel_rfl) (fun _ _ _ h => h) (Or.inl ⟨by rfl, ?_⟩) ?_ ?_
        rotate_left
        · intro w'
          go_simp
          with_reducible rfl
        rotate_left
        · simp only [Act.put, List.setIfInBounds_toArray, List.set_cons_zero, List.set_cons_succ]
          rfl
        refine pure_ (i := 4) (N := some 26) (v := ?_) (a' := ?_) #[true, true, true, true, true, false, false, false, false, false, false, false, false, false, false, false, false, false, false, false] rfl rfl (by kernel_rfl) (fun _ _ _ h => h) (Or.inl ⟨by rfl, ?_⟩) ?_ ?_
        rotate_left
        · intro w'
          go_simp
          with_reducible rfl
        rotate_left
        · simp only [Act.put, List.setIfInBounds_toArray, List.set_cons_zero, List.set_cons_succ]
          rfl
        refine pure_ (i := 5) (N := some 27) (v := ?_) (a' := ?_) #[true, true, true, true, true, true, false, false, false, false, false, false, false, false, false, false, false, false, false, false] rfl rfl (by kernel_rfl) (fun _ _ _ h => h) (Or.inl ⟨by rfl, ?_⟩) ?_ ?_
        rotate_left
        · intro w'
          go_simp
          with_reducible rfl
        rotate_left
        · simp only [Act.put, List.setIfInBounds_toArray, List.set_cons_zero, List.set_cons_succ]
          rfl
        refine pure_ (i := 6) (N := some 28) (v := ?_) (a' := ?_) #[true, true, true, true, true, true, true, false, false, false, false, false, false, false, false, false, false, false, false, false] rfl rfl (by kernel_rfl) (fun _ _ _ h => h) (Or.inl ⟨by rfl, ?_⟩) ?_ ?_
        rotate_left
        · intro w'
          go_simp
          with_reducible rfl
        rotate_left
        · simp only [Act.put, List.setIfInBounds_toArray, List.set_cons_zero, List.set_cons_succ]
          rfl
        refine pure_ (i := 7) (N := some 29) (v := ?_) (a' := ?_) #[true, true, true, true, true, true, true, true, false, false, false, false, false, false, false, false, false, false, false, false] rfl rfl (by kernel_rfl) (fun _ _ _ h => h) (Or.inl ⟨by rfl, ?_⟩) ?_ ?_
        rotate_left
        · intro w'
          go_simp
          with_reducible rfl
        rotate_left
        · simp only [Act.put, List.setIfInBounds_toArray, List.set_cons_zero, List.set_cons_succ]
          rfl
        refine pure_ (i := 8) (N := some 30) (v := ?_) (a' := ?_) #[true, true, true, true, true, true, true, true, true, false, false, false, false, false, false, false, false, false, false, false] rfl rfl (by kernel_rfl) (fun _ _ _ h => h) (Or.inl ⟨by rfl, ?_⟩) ?_ ?_
        rotate_left
        · intro w'
          go_simp
          with_reducible rfl
        rotate_left
        · simp only [Act.put, List.setIfInBounds_toArray, List.set_cons_zero, List.set_cons_succ]
          rfl
        refine take_ (i := 9) (N := some 31) (v := .int .u8 (rd L 257)) (a' := ?_) #[true, true, true, true, true, true, true, true, true, true, false, false, false, false, false, false, false, false, false, false] rfl rfl (by kernel_rfl) (fun _ _ _ h => h) (Or.inl ⟨by rfl, ?_⟩) hHeld ?_ ?_
        rotate_left
        rotate_left
        · simp only [Act.put, List.setIfInBounds_toArray, List.set_cons_zero, List.set_cons_succ]
          rfl
        rotate_left
        · rintro w' ⟨s0, s1⟩
          go_simp
        refine pure_ (i := 10) (N := some 32) (v := ?_) (a' := ?_) #[true, true, true, true, true, true, true, true, true, true, true, false, false, false, false, false, false, false, false, false] rfl rfl (by kernel_rfl) (fun _ _ _ h => h) (Or.inl ⟨by rfl, ?_⟩) ?_ ?_
        rotate_left
        · intro w'
          go_simp
          with_reducible rfl
        rotate_left
        · simp only [Act.put, List.setIfInBounds_toArray, List.set_cons_zero, List.set_cons_succ]
          rfl
        refine pure_ (i := 11) (N := some 33) (v := ?_) (a' := ?_) #[true, true, true, true, true, true, true, true, true, true, true, true, false, false, false, false, false, false, false, false] rfl rfl (by kernel_rfl) (fun _ _ _ h => h) (Or.inl ⟨by rfl, ?_⟩) ?_ ?_
        rotate_left
        · intro w'
          go_simp
          with_reducible rfl
        rotate_left
        · simp only [Act.put, List.setIfInBounds_toArray, List.set_cons_zero, List.set_cons_succ]
          rfl
        refine pure_ (i := 12) (N := some 34) (v := ?_) (a' := ?_) #[true, true, true, true, true, true, true, true, true, true, true, true, true, false, false, false, false, false, false, false] rfl rfl (by kernel_rfl) (fun _ _ _ h => h) (Or.inl ⟨by rfl, ?_⟩) ?_ ?_
        rotate_left
        · intro w'
          go_simp
          with_reducible rfl
        rotate_left
        · simp only [Act.put, List.setIfInBounds_toArray, List.set_cons_zero, List.set_cons_succ]
          rfl
        refine pure_ (i := 13) (N := some 35) (v := ?_) (a' := ?_) #[true, true, true, true, true, true, true, true, true, true, true, true, true, true, false, false, false, false, false, false] rfl rfl (by kernel_rfl) (fun _ _ _ h => h) (Or.inl ⟨by rfl, ?_⟩) ?_ ?_
        rotate_left
        · intro w'
          go_simp
          with_reducible rfl
        rotate_left
        · simp only [Act.put, List.setIfInBounds_toArray, List.set_cons_zero, List.set_cons_succ]
          rfl
        refine take_ (i := 14) (N := some 36) (v := .int .u8 (rd L 1)) (a' := ?_) #[true, true, true, true, true, true, true, true, true, true, true, true, true, true, true, false, false, false, false, false] rfl rfl (by kernel_rfl) (fun _ _ _ h => h) (Or.inl ⟨by rfl, ?_⟩) hHeld ?_ ?_
        rotate_left
        rotate_left
        · simp only [Act.put, List.setIfInBounds_toArray, List.set_cons_zero, List.set_cons_succ]
          rfl
        rotate_left
        · rintro w' ⟨s0, s1⟩
          go_simp
        refine pure_ (i := 15) (N := some 37) (v := ?_) (a' := ?_) #[true, true, true, true, true, true, true, true, true, true, true, true, true, true, true, true, false, false, false, false] rfl rfl (by kernel_rfl) (fun _ _ _ h => h) (Or.inl ⟨by rfl, ?_⟩) ?_ ?_
        rotate_left
        · intro w'
          go_simp
          with_reducible rfl
        rotate_left
        · simp only [Act.put, List.setIfInBounds_toArray, List.set_cons_zero, List.set_cons_succ]
          rfl
        refine pure_ (i := 16) (N := some 38) (v := ?_) (a' := ?_) #[true, true, true, true, true, true, true, true, true, true, true, true, true, true, true, true, true, false, false, false] rfl rfl (by kernel_rfl) (fun _ _ _ h => h) (Or.inl ⟨by rfl, ?_⟩) ?_ ?_
        rotate_left
        · intro w'
          go_simp
          with_reducible rfl
        rotate_left
        · simp only [Act.put, List.setIfInBounds_toArray, List.set_cons_zero, List.set_cons_succ]
          rfl
        refine pure_ (i := 17) (N := some 39) (v := ?_) (a' := ?_) #[true, true, true, true, true, true, true, true, true, true, true, true, true, true, true, true, true, true, false, false] rfl rfl (by kernel_rfl) (fun _ _ _ h => h) (Or.inl ⟨by rfl, ?_⟩) ?_ ?_
        rotate_left
        · intro w'
          go_simp
          with_reducible rfl
        rotate_left
        · simp only [Act.put, List.setIfInBounds_toArray, List.set_cons_zero, List.set_cons_succ]
          rfl
        refine pure_ (i := 18) (N := some 40) (v := ?_) (a' := ?_) #[true, true, true, true, true, true, true, true, true, true, true, true, true, true, true, true, true, true, true, false] rfl rfl (by kernel_rfl) (fun _ _ _ h => h) (Or.inl ⟨by rfl, ?_⟩) ?_ ?_
        rotate_left
        · intro w'
          go_simp
          with_reducible rfl
        rotate_left
        · simp only [Act.put, List.setIfInBounds_toArray, List.set_cons_zero, List.set_cons_succ]
          rfl
        refine pure_ (i := 19) (N := some 21) (v := ?_) (a' := ?_) #[true, true, true, true, true, true, true, true, true, true, true, true, true, true, true, true, true, true, true, true] rfl rfl (by kernel_rfl) (fun _ _ _ h => h) (Or.inl ⟨by rfl, ?_⟩) ?_ ?_
        rotate_left
        · intro w'
          go_simp
          with_reducible rfl
        rotate_left
        · simp only [Act.put, List.setIfInBounds_toArray, List.set_cons_zero, List.set_cons_succ]
          rfl
        refine done_ (n := 0) (by kernel_rfl) ?_
        go_wp2
        go_ret
        exact ⟨by rw [HR.out]; simp [HE.out], below_drew HB2.out⟩
      · have hne : (rd L 257 == IntKind.u8.wrap (rd L 1 + 1)) = false := by rw [wrap_u8]; simp [he]
        have HE := Aside0.mk he
        clear he
        go_enter Tryd.func66, Tryd.ntmps66
        go_wp2_with (first
          | (go_at_call 73; (with_reducible refine (HDA.out _ ?ca).mono ?_); (case ca => exact HA.out); rintro e w1 ⟨va, rfl, hb⟩; have HB := Aside0.mk (below_step (Below.refl _ _) hb); clear hb)
          | (go_at_call 73; (with_reducible refine (HDB.out _ ?cb).mono ?_); (case cb => exact Kd.C_below HB0.out HB.out); rintro e w2 ⟨vb, rfl, hb⟩; have HB2 := Aside0.mk (below_step HB.out hb); clear hb HB))
        have hz257 := (HB2.out.cell (World.block_lt_of_cell? w _ h257.out)).trans h257.out
        have hz1 := (HB2.out.cell (World.block_lt_of_cell? w _ h1.out)).trans h1.out
        refine start_ (n := 20) (S := fun w' => w'.cell? ⟨b, 257, none⟩ = some (.int .u8 (rd L 257)) ∧ w'.cell? ⟨b, 1, none⟩ = some (.int .u8 (rd L 1))) (ds := []) #[false, false, false, false, false, false, false, false, false, false, false, false, false, false, false, false, false, false, false, false] (by kernel_rfl) rfl rfl ⟨hz257, hz1⟩ (fun hHeld => ?_)
        refine pure_ (i := 0) (N := some 22) (v := ?_) (a' := ?_) #[true, false, false, false, false, false, false, false, false, false, false, false, false, false, false, false, false, false, false, false] rfl rfl (by kernel_rfl) (fun _ _ _ h => h) (Or.inl ⟨by rfl, ?_⟩) ?_ ?_
        rotate_left
        · intro w'
          go_simp
          with_reducible rfl
        rotate_left
        · simp only [Act.put, List.setIfInBounds_toArray, List.set_cons_zero, List.set_cons_succ]
          rfl
        refine pure_ (i := 1) (N := some 23) (v := ?_) (a' := ?_) #[true, true, false, false, false, false, false, false, false, false, false, false, false, false, false, false, false, false, false, false] rfl rfl (by kernel_rfl) (fun _ _ _ h => h) (Or.inl ⟨by rfl, ?_⟩) ?_ ?_
        rotate_left
        · intro w'
          go_simp
          with_reducible rfl
        rotate_left
        · simp only [Act.put, List.setIfInBounds_toArray, List.set_cons_zero, List.set_cons_succ]
          rfl
        refine pure_ (i := 2) (N := some 24) (v := ?_) (a' := ?_) #[true, true, true, false, false, false, false, false, false, false, false, false, false, false, false, false, false, false, false, false] rfl rfl (by kernel_rfl) (fun _ _ _ h => h) (Or.inl ⟨by rfl, ?_⟩) ?_ ?_
        rotate_left
        · intro w'
          go_simp
          with_reducible rfl
        rotate_left
        · simp only [Act.put, List.setIfInBounds_toArray, List.set_cons_zero, List.set_cons_succ]
          rfl
        refine pure_ (i := 3) (N := some 25) (v := ?_) (a' := ?_) #[true, true, true, true, false, false, false, false, false, false, false, false, false, false, false, false, false, false, false, false] rfl rfl (by kernel_rfl) (fun _ _ _ h => h) (Or.inl ⟨by rfl, ?_⟩) ?_ ?_
        rotate_left
        · intro w'
          go_simp
          with_reducible rfl
        rotate_left
        · simp only [Act.put, List.setIfInBounds_toArray, List.set_cons_zero, List.set_cons_succ]
          rfl
        refine pure_ (i := 4) (N := some 26) (v := ?_) (a' := ?_) #[true, true, true, true, true, false, false, false, false, false, false, false, false, false, false, false, false, false, false, false] rfl rfl (by kernel_rfl) (fun _ _ _ h => h) (Or.inl ⟨by rfl, ?_⟩) ?_ ?_
        rotate_left
        · intro w'
          go_simp
          with_reducible rfl
        rotate_left
        · simp only [Act.put, List.setIfInBounds_toArray, List.set_cons_zero, List.set_cons_succ]
          rfl
        refine pure_ (i := 5) (N := some 27) (v := ?_) (a' := ?_) #[true, true, true, true, true, true, false, false, false, false, false, false, false, false, false, false, false, false, false, false] rfl rfl (by kernel_rfl) (fun _ _ _ h => h) (Or.inl ⟨by rfl, ?_⟩) ?_ ?_
        rotate_left
        · intro w'
          go_simp
          with_reducible rfl
        rotate_left
        · simp only [Act.put, List.setIfInBounds_toArray, List.set_cons_zero, List.set_cons_succ]
          rfl
        refine pure_ (i := 6) (N := some 28) (v := ?_) (a' := ?_) #[true, true, true, true, true, true, true, false, false, false, false, false, false, false, false, false, false, false, false, false] rfl rfl (by kernel_rfl) (fun _ _ _ h => h) (Or.inl ⟨by rfl, ?_⟩) ?_ ?_
        rotate_left
        · intro w'
          go_simp
          with_reducible rfl
        rotate_left
        · simp only [Act.put, List.setIfInBounds_toArray, List.set_cons_zero, List.set_cons_succ]
          rfl
        refine pure_ (i := 7) (N := some 29) (v := ?_) (a' := ?_) #[true, true, true, true, true, true, true, true, false, false, false, false, false, false, false, false, false, false, false, false] rfl rfl (by kernel_rfl) (fun _ _ _ h => h) (Or.inl ⟨by rfl, ?_⟩) ?_ ?_
        rotate_left
        · intro w'
          go_simp
          with_reducible rfl
        rotate_left
        · simp only [Act.put, List.setIfInBounds_toArray, List.set_cons_zero, List.set_cons_succ]
          rfl
        refine pure_ (i := 8) (N := some 30) (v := ?_) (a' := ?_) #[true, true, true, true, true, true, true, true, true, false, false, false, false, false, false, false, false, false, false, false] rfl rfl (by kernel_rfl) (fun _ _ _ h => h) (Or.inl ⟨by rfl, ?_⟩) ?_ ?_
        rotate_left
        · intro w'
          go_simp
          with_reducible rfl
        rotate_left
        · simp only [Act.put, List.setIfInBounds_toArray, List.set_cons_zero, List.set_cons_succ]
          rfl
        refine take_ (i := 9) (N := some 31) (v := .int .u8 (rd L 257)) (a' := ?_) #[true, true, true, true, true, true, true, true, true, true, false, false, false, false, false, false, false, false, false, false] rfl rfl (by kernel_rfl) (fun _ _ _ h => h) (Or.inl ⟨by rfl, ?_⟩) hHeld ?_ ?_
        rotate_left
        rotate_left
        · simp only [Act.put, List.setIfInBounds_toArray, List.set_cons_zero, List.set_cons_succ]
          rfl
        rotate_left
        · rintro w' ⟨s0, s1⟩
          go_simp
        refine pure_ (i := 10) (N := some 32) (v := ?_) (a' := ?_) #[true, true, true, true, true, true, true, true, true, true, true, false, false, false, false, false, false, false, false, false] rfl rfl (by kernel_rfl) (fun _ _ _ h => h) (Or.inl ⟨by rfl, ?_⟩) ?_ ?_
        rotate_left
        · intro w'
          go_simp
          with_reducible rfl
        rotate_left
        · simp only [Act.put, List.setIfInBounds_toArray, List.set_cons_zero, List.set_cons_succ]
          rfl
        refine pure_ (i := 11) (N := some 33) (v := ?_) (a' := ?_) #[true, true, true, true, true, true, true, true, true, true, true, true, false, false, false, false, false, false, false, false] rfl rfl (by kernel_rfl) (fun _ _ _ h => h) (Or.inl ⟨by rfl, ?_⟩) ?_ ?_
        rotate_left
        · intro w'
          go_simp
          with_reducible rfl
        rotate_left
        · simp only [Act.put, List.setIfInBounds_toArray, List.set_cons_zero, List.set_cons_succ]
          rfl
        refine pure_ (i := 12) (N := some 34) (v := ?_) (a' := ?_) #[true, true, true, true, true, true, true, true, true, true, true, true, true, false, false, false, false, false, false, false] rfl rfl (by kernel_rfl) (fun _ _ _ h => h) (Or.inl ⟨by rfl, ?_⟩) ?_ ?_
        rotate_left
        · intro w'
          go_simp
          with_reducible rfl
        rotate_left
        · simp only [Act.put, List.setIfInBounds_toArray, List.set_cons_zero, List.set_cons_succ]
          rfl
        refine pure_ (i := 13) (N := some 35) (v := ?_) (a' := ?_) #[true, true, true, true, true, true, true, true, true, true, true, true, true, true, false, false, false, false, false, false] rfl rfl (by kernel_rfl) (fun _ _ _ h => h) (Or.inl ⟨by rfl, ?_⟩) ?_ ?_
        rotate_left
        · intro w'
          go_simp
          with_reducible rfl
        rotate_left
        · simp only [Act.put, List.setIfInBounds_toArray, List.set_cons_zero, List.set_cons_succ]
          rfl
        refine take_ (i := 14) (N := some 36) (v := .int .u8 (rd L 1)) (a' := ?_) #[true, true, true, true, true, true, true, true, true, true, true, true, true, true, true, false, false, false, false, false] rfl rfl (by kernel_rfl) (fun _ _ _ h => h) (Or.inl ⟨by rfl, ?_⟩) hHeld ?_ ?_
        rotate_left
        rotate_left
        · simp only [Act.put, List.setIfInBounds_toArray, List.set_cons_zero, List.set_cons_succ]
          rfl
        rotate_left
        · rintro w' ⟨s0, s1⟩
          go_simp
        refine pure_ (i := 15) (N := some 37) (v := ?_) (a' := ?_) #[true, true, true, true, true, true, true, true, true, true, true, true, true, true, true, true, false, false, false, false] rfl rfl (by kernel_rfl) (fun _ _ _ h => h) (Or.inl ⟨by rfl, ?_⟩) ?_ ?_
        rotate_left
        · intro w'
          go_simp
          with_reducible rfl
        rotate_left
        · simp only [Act.put, List.setIfInBounds_toArray, List.set_cons_zero, List.set_cons_succ]
          rfl
        refine pure_ (i := 16) (N := some 38) (v := ?_) (a' := ?_) #[true, true, true, true, true, true, true, true, true, true, true, true, true, true, true, true, true, false, false, false] rfl rfl (by kernel_rfl) (fun _ _ _ h => h) (Or.inl ⟨by rfl, ?_⟩) ?_ ?_
        rotate_left
        · intro w'
          go_simp
          with_reducible rfl
        rotate_left
        · simp only [Act.put, List.setIfInBounds_toArray, List.set_cons_zero, List.set_cons_succ]
          rfl
        refine pure_ (i := 17) (N := some 39) (v := ?_) (a' := ?_) #[true, true, true, true, true, true, true, true, true, true, true, true, true, true, true, true, true, true, false, false] rfl rfl (by kernel_rfl) (fun _ _ _ h => h) (Or.inl ⟨by rfl, ?_⟩) ?_ ?_
        rotate_left
        · intro w'
          go_simp
          with_reducible rfl
        rotate_left
        · simp only [Act.put, List.setIfInBounds_toArray, List.set_cons_zero, List.set_cons_succ]
          rfl
        refine pure_ (i := 18) (N := some 40) (v := ?_) (a' := ?_) #[true, true, true, true, true, true, true, true, true, true, true, true, true, true, true, true, true, true, true, false] rfl rfl (by kernel_rfl) (fun _ _ _ h => h) (Or.inl ⟨by rfl, ?_⟩) ?_ ?_
        rotate_left
        · intro w'
          go_simp
          with_reducible rfl
        rotate_left
        · simp only [Act.put, List.setIfInBounds_toArray, List.set_cons_zero, List.set_cons_succ]
          rfl
        refine pure_ (i := 19) (N := some 21) (v := ?_) (a' := ?_) #[true, true, true, true, true, true, true, true, true, true, true, true, true, true, true, true, true, true, true, true] rfl rfl (by kernel_rfl) (fun _ _ _ h => h) (Or.inl ⟨by rfl, ?_⟩) ?_ ?_
        rotate_left
        · intro w'
          go_simp
          with_reducible rfl
        rotate_left
        · simp only [Act.put, List.setIfInBounds_toArray, List.set_cons_zero, List.set_cons_succ]
          rfl
        refine done_ (n := 0) (by kernel_rfl) ?_
        go_wp2
        go_ret
        exact ⟨by rw [HR.out]; simp [HE.out], below_drew HB2.out⟩
end Go.Proofs.YtefhngadeimklaaDoor.Q
end
section
namespace Go.Proofs.YtefhngadeimklaaDoor.Q
open Go.RowKit Go.Proofs.YtefhngadeimklaaDoorW.PrintWords Go.Proofs.YtefhngadeimklaaDoorW.PrintLast Go.Proofs.YtefhngadeimklaaDoorW.PrintMore
def slices_Clone_byte_byte.f (l0 : List Int) : Option (List Int) := if l0.length * 1 < 140737488355328 then some l0 else none
set_option maxHeartbeats 1000000 in
theorem slices_Clone_byte_byte.calls (A0 : Option Addr) (c0 : Nat) (l0 : List Int) (r : List Int) (w : World) (hr0 : Kd.C (Kd.int .u8) w A0 l0.length l0) (hc0 : l0.length ≤ c0) (h : slices_Clone_byte_byte.f l0 = some r) :
    Calls Tryd.prog 57 #[.slice A0 l0.length c0] w fun e w' => ∃ v0_ : Value, e = .returned (v0_) ∧ Kd.R (Kd.int .u8) 5 w' w.heap.size (fun _ => True) v0_ r ∧ Below w.heap.size w w' := by
  have q : ∀ (w : World) (a : Option Addr) (n c n' c' : Nat), (binOp .eql 42 (.slice a n c) (.slice none n' c')).run Tryd.prog w = .ok (.bool a.isNone) w := fun w a n c n' c' => Lib.run_eql_slice_nil w _ _ a n c n' c' Tryd.underlying42
  unfold slices_Clone_byte_byte.f at h
  split at h
  · rename_i hl
    obtain rfl := Option.some.inj h
    clear h
    cases A0 with
    | none =>
      obtain rfl := C_nil_eq hr0
      go_enter Tryd.func57, Tryd.ntmps57
      go_wp2
      go_ret
      exact ⟨_, rfl, Kd.R_nil _ _ _ _ _, Below.refl _ _⟩
    | some ad =>
      have HR := Aside0.mk hr0
      have HL := Aside0.mk hl
      clear hr0 hl hc0
      go_enter Tryd.func57, Tryd.ntmps57
      go_wp2_with (at_builtin; refine Kd.R_append_rows (Kd.int .u8) (w0 := w) w.heap.size rfl (.tmp 5) (.tmp 6) 42 5 (.int .u8 0) 1 rfl Tryd.underlying42 info5 rfl (by decide) (by omega) (.slice (some ⟨w.heap.size, 0, none⟩) 0 0) ([] : List Int) l0 _ _ _ (fun _ => True) (fun _ => False) rfl rfl ?aO ?aR (fun _ _ h => h) (fun _ h => h.elim) ?aF ?aB ?aS ?aL ?_; (case aR => exact Kd.C_alloc HR.out _); (case aB => exact (below_alloc (Below.refl _ _) _)); (case aF => exact (fun _ _ => trivial)); (case aO => exact R_empty _ _ _ _ (Nat.le_refl _)); (case aS => simp); (case aL => have := HL.out; simp only [List.length_nil]; omega); intro v1 w1 ho hb hg hat; have HO := Aside0.mk ho; have HB := Aside0.mk hb; clear ho hb hg hat)
      go_ret
      exact ⟨_, rfl, HO.out, HB.out⟩
  · cases h
end Go.Proofs.YtefhngadeimklaaDoor.Q
end
