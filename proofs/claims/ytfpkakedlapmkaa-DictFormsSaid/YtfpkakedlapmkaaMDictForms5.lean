/- Contracts of Go functions and plain facts, of several texts, one behind the other; no condition. -/
import Derived.Test.YtfpkakedlapmkaaMDictForms4
import Derived.Test.YtfpkakedlapmkaaMDictForms2
import Derived.Deep.RegionHeld3
section
set_option linter.unusedSimpArgs false
set_option linter.unusedVariables false
namespace Go.Proofs.Ytfpkakedlapmkaa.Q
open Go.RowKit Go.Proofs.YtfpkakedlapmkaaW.PrintWords Go.Proofs.YtfpkakedlapmkaaW.PrintLast Go.Proofs.YtfpkakedlapmkaaW.PrintMore
attribute [local go_sem] max2_int min2_int max_two min_two max_three min_three max_four min_four
theorem put_row {W : World} {g t o : Nat} {cur : Array Value} (hh : W.heap[g]? = some (.cells cur t (0, 0))) (v : Value) (ho : o < cur.size) : ∃ cur', (W.setCell ⟨g, o, none⟩ v).heap[g]? = some (.cells cur' t (0, 0)) ∧ cur'.size = cur.size ∧ cur'.toList = cur.toList.set o v ∧ W.grownBy (W.setCell ⟨g, o, none⟩ v) (some g) := by
 obtain ⟨cur', h1, h2, h3⟩ := setCells_row [v] o W cur hh (by show o + 1 ≤ _; omega)
 obtain ⟨q1, q2, q3, q4⟩ := setCells_same g [v] o W
 refine ⟨cur', h1, h2, ?_, ⟨q1, q2, q3, by have : (W.setCells g o [v]).heap.size = W.heap.size := q4; exact Nat.le_of_eq this.symm, fun k _ hk => setCells_far [v] o k (fun e => hk (by rw [e]))⟩⟩
 rw [h3, List.set_eq_take_append_cons_drop, if_pos (by rw [Array.length_toList]; exact ho)]
 show cur.toList.take o ++ [v] ++ cur.toList.drop (o + 1) = _
 rw [List.append_assoc]
 rfl
theorem put_other {W W' : World} {g t o p : Nat} {cur cur' : Array Value} {v u : Value} (hh : W.heap[g]? = some (.cells cur t (0, 0))) (hh' : W'.heap[g]? = some (.cells cur' t (0, 0))) (ht : cur'.toList = cur.toList.set o v) (hp : o ≠ p) (hu : W.cell? ⟨g, p, none⟩ = some u) : W'.cell? ⟨g, p, none⟩ = some u := by
 rw [blk_cell hh', ← Array.getElem?_toList, ht, List.getElem?_set_ne hp, Array.getElem?_toList, ← blk_cell hh]
 exact hu
theorem cells3_step {p1 p4 p3 : Addr} {a b c : Value} {w W w2 : World} (h : (W.cell? p1 = some a ∧ W.cell? p4 = some b ∧ W.cell? p3 = some c) ∧ Below w.heap.size w W) (hb : Below W.heap.size W w2) : (w2.cell? p1 = some a ∧ w2.cell? p4 = some b ∧ w2.cell? p3 = some c) ∧ Below w.heap.size w w2 :=
 ⟨⟨(hb.cell (World.block_lt_of_cell? _ _ h.1.1)).trans h.1.1, (hb.cell (World.block_lt_of_cell? _ _ h.1.2.1)).trans h.1.2.1, (hb.cell (World.block_lt_of_cell? _ _ h.1.2.2)).trans h.1.2.2⟩, below_step h.2 hb⟩
def G106 (x : S106) : Prop := x.f1.length * 1 < 140737488355328
def G91 (x : S91) : Prop := x.f1.length * 4 < 140737488355328 ∧ x.f4.length * 4 < 140737488355328 ∧ x.f3.length * 40 < 140737488355328 ∧ ∀ p ∈ x.f3, G106 p
theorem cloneNodes (A : Option Addr) (c : Nat) (l : List S91) (w : World) (hC : Kd.C k91 w A l.length l) (hl : l.length * 96 < 140737488355328) :
  ∃ css : List (List Value), css.length = l.length ∧ (∀ (j : Nat) x c, l[j]? = some x → css[j]? = some c → k91.K w x c) ∧ Calls Try.prog 86 #[.slice A l.length c] w fun e w' => ∃ v0_ : Value, e = .returned (v0_) ∧ Kd.R (Kd.raw 5) 91 w' w.heap.size (fun _ => True) v0_ css ∧ Below w.heap.size w w' := by
 obtain ⟨css, h1, h2, h3⟩ := C_raw hC
 refine ⟨css, h1, h3, ?_⟩
 have h := cloneNode_calls A c css w (by rw [h1]; exact h2) (by omega)
 rwa [h1] at h
theorem cloneProps (A : Option Addr) (c : Nat) (l : List S106) (w : World) (hC : Kd.C k106 w A l.length l) (hl : l.length * 40 < 140737488355328) :
  ∃ css : List (List Value), css.length = l.length ∧ (∀ (j : Nat) x c, l[j]? = some x → css[j]? = some c → k106.K w x c) ∧ ∀ W : World, Below w.heap.size w W → Calls Try.prog 87 #[.slice A l.length c] W fun e w' => ∃ v0_ : Value, e = .returned (v0_) ∧ Kd.R (Kd.raw 2) 106 w' W.heap.size (fun _ => True) v0_ css ∧ Below W.heap.size W w' := by
 obtain ⟨css, h1, h2, h3⟩ := C_raw hC
 refine ⟨css, h1, h3, fun W hb => ?_⟩
 have h := cloneProp_calls A c css W (by rw [h1]; exact Kd.C_below h2 hb) (by omega)
 rwa [h1] at h
theorem R_raw_nil {α : Type} {d : Kd α} {sz e base : Nat} {W : World} {ok : Nat → Prop} {v : Value} (h : (Kd.raw sz).R e W base ok v []) (hs : sz = d.sz) : d.R e W base ok v [] := by
 subst hs
 obtain ⟨h0, inner, ho, hr⟩ := h
 exact ⟨h0, inner, ho, hr.1, fun j p hj => by simp at hj⟩
theorem R_ge {α : Type} {d : Kd α} {e b g : Nat} {W : World} {ok : Nat → Prop} {v : Value} {xs : List α} (h : d.R e W b ok v xs) (hg : g < b) : d.R e W b (fun k => k ≠ g) v xs :=
 Kd.R_mono (Kd.R_bound h) (fun k hk => by have := hk.2.1; omega)
theorem R_and {α : Type} {d : Kd α} {e b g p : Nat} {W : World} {v : Value} {xs : List α} (h : d.R e W b (fun k => k ≠ g) v xs) {t : Nat} {cells : Array Value} (hb : W.heap[p]? = some (.cells cells t (0, 0))) (ht : ∀ q, q ∈ e :: d.E → q ≠ t) : d.R e W b (fun k => k ≠ g ∧ k ≠ p) v xs := Kd.R_types h hb ht
/-- All blocks but g stand as they stood. -/
def Kp (g : Nat) (a b : World) : Prop := a.heap.size ≤ b.heap.size ∧ ∀ k, k ≠ g → k < a.heap.size → b.heap[k]? = a.heap[k]?
theorem Kp_below {g : Nat} {a b c : World} (h : Kp g a b) (hb : Below b.heap.size b c) : Kp g a c := ⟨Nat.le_trans h.1 hb.size, fun k hk hl => (hb.block k (Nat.lt_of_lt_of_le hl h.1)).trans (h.2 k hk hl)⟩
theorem Kp_grown {g p : Nat} {a b c : World} (h : Kp g a b) (hg : b.grownBy c (some p)) (hp : p = g ∨ a.heap.size ≤ p) : Kp g a c :=
 ⟨Nat.le_trans h.1 hg.size, fun k hk hl => (hg.block k (Nat.lt_of_lt_of_le hl h.1) (fun e => by injection e with e; omega)).trans (h.2 k hk hl)⟩
theorem Kp_start {g : Nat} {a b : World} (hb : Below a.heap.size a b) : Kp g a b := ⟨hb.size, fun k _ hl => hb.block k hl⟩
theorem cells2_step {p1 p2 : Addr} {a b : Value} {w W w2 : World} (h : (W.cell? p1 = some a ∧ W.cell? p2 = some b) ∧ Below w.heap.size w W) (hb : Below W.heap.size W w2) : (w2.cell? p1 = some a ∧ w2.cell? p2 = some b) ∧ Below w.heap.size w w2 :=
 ⟨⟨(hb.cell (World.block_lt_of_cell? _ _ h.1.1)).trans h.1.1, (hb.cell (World.block_lt_of_cell? _ _ h.1.2)).trans h.1.2⟩, below_step h.2 hb⟩
theorem seg2 (cur : List Value) (i : Nat) (a b v : Value) (h : seg cur 2 i = [a, b]) : seg (cur.set (i * 2 + 1) v) 2 i = [a, v] := by
 rw [seg_set _ 2 i 1 i _ (by decide), if_pos rfl, h]
 rfl
theorem seg5 (cur : List Value) (i : Nat) (a b c d e v1 v4 v3 : Value) (h : seg cur 5 i = [a, b, c, d, e]) : seg (((cur.set (i * 5 + 1) v1).set (i * 5 + 4) v4).set (i * 5 + 3) v3) 5 i = [a, v1, c, v3, v4] := by
 rw [seg_set _ 5 i 3 i _ (by decide), if_pos rfl, seg_set _ 5 i 4 i _ (by decide), if_pos rfl, seg_set _ 5 i 1 i _ (by decide), if_pos rfl, h]
 rfl
theorem seg5_ne (cur : List Value) (i j : Nat) (v1 v4 v3 : Value) (h : j ≠ i) : seg (((cur.set (i * 5 + 1) v1).set (i * 5 + 4) v4).set (i * 5 + 3) v3) 5 j = seg cur 5 j := by
 rw [seg_set _ 5 i 3 j _ (by decide), if_neg h, seg_set _ 5 i 4 j _ (by decide), if_neg h, seg_set _ 5 i 1 j _ (by decide), if_neg h]
set_option maxHeartbeats 16000000 in
set_option maxRecDepth 100000 in
theorem treeCopy_calls (A : Option Addr) (c : Nat) (l : List S91) (w : World) (hC : Kd.C k91 w A l.length l) (hc : l.length ≤ c) (hl : l.length * 96 < 140737488355328) (hG : ∀ x ∈ l, G91 x) :
  Calls Try.prog 59 #[.slice A l.length c] w fun e w' => ∃ v0_ : Value, e = .returned v0_ ∧ Kd.R k91 91 w' w.heap.size (fun _ => True) v0_ l ∧ Below w.heap.size w w' := by
 have hu91 := Try.underlying91
 have hu106 := Try.underlying106
 have hm := Kd.C_max hC
 have mixed : Try.prog.follows Departure.mixedOrders = true := by kernel_rfl
 obtain ⟨css, hcl, hck, hcall⟩ := cloneNodes A c l w hC hl
 have HCL := Aside0.mk hcall
 have HL := Aside0.mk hl
 have HGG := Aside0.mk hG
 have HC := Aside0.mk hC
 have HCK := Aside0.mk hck
 have HCS := Aside0.mk hcl
 by_cases hnil : l.length = 0
 ·have e1 : l = [] := List.eq_nil_of_length_eq_zero hnil
  subst e1
  have e2 : css = [] := List.eq_nil_of_length_eq_zero (by simpa using hcl)
  subst e2
  clear hC hc hl hG hcl hck hcall hm hnil
  go_enter Try.func59, Try.ntmps59
  go_wp2_with (go_at_call 86; refine HCL.out.mono ?_; rintro e w1 ⟨v, rfl, hR, hb⟩; obtain ⟨A1, c1, rfl⟩ := Kd.R_slice hR; have HR := Aside0.mk (R_raw_nil (d := k91) hR rfl); have HB := Aside0.mk hb; clear hR hb)
  go_loopg [10] 0 (fun kq v10 w' => v10 = .int .i64 0 ∧ kq = 0 ∧ w' = w1)
  case atStart => exact ⟨rfl, rfl, rfl⟩
  case round =>
   obtain ⟨rfl, rfl, rfl⟩ := hrel
   go_wp2
   go_ret
   exact ⟨_, rfl, HR.out, HB.out⟩
 ·have HN := Aside0.mk hnil
  clear hC hc hl hG hcl hck hcall hnil
  go_enter Try.func59, Try.ntmps59
  go_wp2_with (go_at_call 86; refine HCL.out.mono ?_; rintro e w1 ⟨v, rfl, hR, hb⟩; obtain ⟨A1, cap, rfl⟩ := Kd.R_slice hR; rw [HCS.out] at hR ⊢; have HR := Aside0.mk hR; have HB1 := Aside0.mk hb; clear hR hb)
  obtain ⟨g, rfl⟩ : ∃ g, A1 = some ⟨g, 0, none⟩ := by
   cases A1 with
   | none =>
    have h := (Kd.R_reads' HR.out).2.2
    exact absurd (C_nil_eq h) (fun e => HN.out (by rw [← HCS.out, e]; rfl))
   | some ad =>
    obtain ⟨g, rfl⟩ := Kd.R_head HR.out
    exact ⟨g, rfl⟩
  obtain ⟨cur0, hP0⟩ := PR_start (d := k91) (xs := l) HR.out HCS.out HCK.out
  go_loopg [10] l.length (fun kq v10 w' => ∃ i : Nat, v10 = .int .i64 i ∧ Aside0 (i + kq = l.length) ∧ Aside0 (∃ cur, PR k91 91 w w' w.heap.size g l.length cap i l cur) ∧ Aside0 (Below w.heap.size w w'))
  case atStart => exact ⟨0, rfl, ⟨by omega⟩, ⟨cur0, hP0⟩, HB1⟩
  case round =>
   obtain ⟨i, rfl, HI, HP, HB⟩ := hrel
   rename World => wa
   clear hP0
   cases gk with
   | zero =>
    have hlt : decide ((i : Int) < (l.length : Int)) = false := decide_eq_false (by have := HI.out; omega)
    have hltN : decide (i < l.length) = false := decide_eq_false (by have := HI.out; omega)
    go_wp2
    go_ret
    obtain ⟨cur, hp⟩ := HP.out
    have hi := HI.out
    rw [show i = l.length by omega] at hp
    exact ⟨_, rfl, PR_end hp, HB.out⟩
   | succ k1 =>
    have hi := HI.out
    have hlt : decide ((i : Int) < (l.length : Int)) = true := decide_eq_true (by omega)
    have hltN : decide (i < l.length) = true := decide_eq_true (by omega)
    have p1 : (0 ≤ (i : Int)) = True := eq_true (by omega)
    have p2 : ((i : Int) < (l.length : Int)) = True := eq_true (by omega)
    have hwr : IntKind.i64.wrap ((i : Int) + 1) = ((i + 1 : Nat) : Int) := (i64_w _).trans (by unfold wrap64; have := HL.out; omega)
    have hwr2 : wrap64 ((i : Int) + 1) = ((i + 1 : Nat) : Int) := by unfold wrap64; have := HL.out; omega
    obtain ⟨cur, hp⟩ := HP.out
    obtain ⟨x, cs, hx, hseg, hK, hcell⟩ := PR_cell hp (by omega)
    obtain ⟨A1, c1, A3, c3, A4, c4, rfl, hl1, hg1, hl3, hg3, hl4, hg4⟩ := k91_open hK
    have hy1 := hcell 1 _ rfl
    have hy3 := hcell 3 _ rfl
    have hy4 := hcell 4 _ rfl
    have hgx := HGG.out x (List.mem_of_getElem? hx)
    have HX := Aside0.mk hx
    have HSG := Aside0.mk hseg
    have HPP := Aside0.mk hp
    have HG1 := Aside0.mk hgx.1
    have HG4 := Aside0.mk hgx.2.1
    have HG3 := Aside0.mk hgx.2.2.2
    have HG3L := Aside0.mk hgx.2.2.1
    have HC1 := Aside0.mk (fun (W : World) (hb : Below wa.heap.size wa W) => Kd.C_below (Kd.C_below hg1 HB.out) hb)
    have HC4 := Aside0.mk (fun (W : World) (hb : Below wa.heap.size wa W) => Kd.C_below (Kd.C_below hg4 HB.out) hb)
    obtain ⟨cs3, hcl3, hck3, hcall3⟩ := cloneProps A3 c3 x.f3 w hg3 hgx.2.2.1
    have HCP := Aside0.mk (fun (W : World) (hb : Below wa.heap.size wa W) => hcall3 W (below_step HB.out hb))
    have HCK3 := Aside0.mk hck3
    have HCL3 := Aside0.mk hcl3
    clear hcall3 hck3 hcl3 hx hseg hK hcell hp hgx hl1 hg1 hl3 hg3 hl4 hg4 hi
    go_wp2
    refine start_ (n := 27) (S := fun w' => (w'.cell? ⟨g, i * 5 + 1, none⟩ = some (.slice A1 x.f1.length c1) ∧ w'.cell? ⟨g, i * 5 + 4, none⟩ = some (.slice A4 x.f4.length c4) ∧ w'.cell? ⟨g, i * 5 + 3, none⟩ = some (.slice A3 x.f3.length c3)) ∧ Below wa.heap.size wa w') (ds := [20, 23, 26]) #[false, false, false, false, false, false, false, false, false, false, false, false, false, false, false, false, false, false, false, false, false, false, false, false, false, false, false] (by kernel_rfl) rfl rfl ⟨⟨hy1, hy4, hy3⟩, below_drew1 (Below.refl wa.heap.size wa)⟩ (fun hHeld => ?_)
    refine pure_ (i := 0) (N := some 16) (v := ?_) (a' := ?_) #[true, false, false, false, false, false, false, false, false, false, false, false, false, false, false, false, false, false, false, false, false, false, false, false, false, false, false] rfl rfl (by kernel_rfl) (fun _ _ _ h => h) (Or.inl ⟨by rfl, ?_⟩) ?_ ?_
    rotate_left
    ·intro w'
     go_simp
     with_reducible rfl
    rotate_left
    ·simp only [Act.put, List.setIfInBounds_toArray, List.set_cons_zero, List.set_cons_succ]
     rfl
    refine pure_ (i := 1) (N := some 17) (v := ?_) (a' := ?_) #[true, true, false, false, false, false, false, false, false, false, false, false, false, false, false, false, false, false, false, false, false, false, false, false, false, false, false] rfl rfl (by kernel_rfl) (fun _ _ _ h => h) (Or.inl ⟨by rfl, ?_⟩) ?_ ?_
    rotate_left
    ·intro w'
     go_simp
     with_reducible rfl
    rotate_left
    ·simp only [Act.put, List.setIfInBounds_toArray, List.set_cons_zero, List.set_cons_succ]
     rfl
    refine pure_ (i := 2) (N := some 18) (v := ?_) (a' := ?_) #[true, true, true, false, false, false, false, false, false, false, false, false, false, false, false, false, false, false, false, false, false, false, false, false, false, false, false] rfl rfl (by kernel_rfl) (fun _ _ _ h => h) (Or.inl ⟨by rfl, ?_⟩) ?_ ?_
    rotate_left
    ·intro w'
     go_simp
     with_reducible rfl
    rotate_left
    ·simp only [Act.put, List.setIfInBounds_toArray, List.set_cons_zero, List.set_cons_succ]
     rfl
    refine pure_ (i := 3) (N := some 19) (v := ?_) (a' := ?_) #[true, true, true, true, false, false, false, false, false, false, false, false, false, false, false, false, false, false, false, false, false, false, false, false, false, false, false] rfl rfl (by kernel_rfl) (fun _ _ _ h => h) (Or.inl ⟨by rfl, ?_⟩) ?_ ?_
    rotate_left
    ·intro w'
     go_simp
     with_reducible rfl
    rotate_left
    ·simp only [Act.put, List.setIfInBounds_toArray, List.set_cons_zero, List.set_cons_succ]
     rfl
    refine pure_ (i := 4) (N := some 20) (v := ?_) (a' := ?_) #[true, true, true, true, true, false, false, false, false, false, false, false, false, false, false, false, false, false, false, false, false, false, false, false, false, false, false] rfl rfl (by kernel_rfl) (fun _ _ _ h => h) (Or.inl ⟨by rfl, ?_⟩) ?_ ?_
    rotate_left
    ·intro w'
     go_simp
     with_reducible rfl
    rotate_left
    ·simp only [Act.put, List.setIfInBounds_toArray, List.set_cons_zero, List.set_cons_succ]
     rfl
    refine pure_ (i := 5) (N := some 21) (v := ?_) (a' := ?_) #[true, true, true, true, true, true, false, false, false, false, false, false, false, false, false, false, false, false, false, false, false, false, false, false, false, false, false] rfl rfl (by kernel_rfl) (fun _ _ _ h => h) (Or.inl ⟨by rfl, ?_⟩) ?_ ?_
    rotate_left
    ·intro w'
     go_simp
     with_reducible rfl
    rotate_left
    ·simp only [Act.put, List.setIfInBounds_toArray, List.set_cons_zero, List.set_cons_succ]
     rfl
    refine pure_ (i := 8) (N := some 24) (v := ?_) (a' := ?_) #[true, true, true, true, true, true, false, false, true, false, false, false, false, false, false, false, false, false, false, false, false, false, false, false, false, false, false] rfl rfl (by kernel_rfl) (fun _ _ _ h => h) (Or.inl ⟨by rfl, ?_⟩) ?_ ?_
    rotate_left
    ·intro w'
     go_simp
     with_reducible rfl
    rotate_left
    ·simp only [Act.put, List.setIfInBounds_toArray, List.set_cons_zero, List.set_cons_succ]
     rfl
    refine pure_ (i := 9) (N := some 25) (v := ?_) (a' := ?_) #[true, true, true, true, true, true, false, false, true, true, false, false, false, false, false, false, false, false, false, false, false, false, false, false, false, false, false] rfl rfl (by kernel_rfl) (fun _ _ _ h => h) (Or.inl ⟨by rfl, ?_⟩) ?_ ?_
    rotate_left
    ·intro w'
     go_simp
     with_reducible rfl
    rotate_left
    ·simp only [Act.put, List.setIfInBounds_toArray, List.set_cons_zero, List.set_cons_succ]
     rfl
    refine pure_ (i := 10) (N := some 26) (v := ?_) (a' := ?_) #[true, true, true, true, true, true, false, false, true, true, true, false, false, false, false, false, false, false, false, false, false, false, false, false, false, false, false] rfl rfl (by kernel_rfl) (fun _ _ _ h => h) (Or.inl ⟨by rfl, ?_⟩) ?_ ?_
    rotate_left
    ·intro w'
     go_simp
     with_reducible rfl
    rotate_left
    ·simp only [Act.put, List.setIfInBounds_toArray, List.set_cons_zero, List.set_cons_succ]
     rfl
    refine pure_ (i := 13) (N := some 29) (v := ?_) (a' := ?_) #[true, true, true, true, true, true, false, false, true, true, true, false, false, true, false, false, false, false, false, false, false, false, false, false, false, false, false] rfl rfl (by kernel_rfl) (fun _ _ _ h => h) (Or.inl ⟨by rfl, ?_⟩) ?_ ?_
    rotate_left
    ·intro w'
     go_simp
     with_reducible rfl
    rotate_left
    ·simp only [Act.put, List.setIfInBounds_toArray, List.set_cons_zero, List.set_cons_succ]
     rfl
    refine pure_ (i := 14) (N := some 30) (v := ?_) (a' := ?_) #[true, true, true, true, true, true, false, false, true, true, true, false, false, true, true, false, false, false, false, false, false, false, false, false, false, false, false] rfl rfl (by kernel_rfl) (fun _ _ _ h => h) (Or.inl ⟨by rfl, ?_⟩) ?_ ?_
    rotate_left
    ·intro w'
     go_simp
     with_reducible rfl
    rotate_left
    ·simp only [Act.put, List.setIfInBounds_toArray, List.set_cons_zero, List.set_cons_succ]
     rfl
    refine pure_ (i := 15) (N := some 31) (v := ?_) (a' := ?_) #[true, true, true, true, true, true, false, false, true, true, true, false, false, true, true, true, false, false, false, false, false, false, false, false, false, false, false] rfl rfl (by kernel_rfl) (fun _ _ _ h => h) (Or.inl ⟨by rfl, ?_⟩) ?_ ?_
    rotate_left
    ·intro w'
     go_simp
     with_reducible rfl
    rotate_left
    ·simp only [Act.put, List.setIfInBounds_toArray, List.set_cons_zero, List.set_cons_succ]
     rfl
    refine take_ (i := 6) (N := some 22) (v := (.slice A1 x.f1.length c1)) (a' := ?_) #[true, true, true, true, true, true, true, false, true, true, true, false, false, true, true, true, false, false, false, false, false, false, false, false, false, false, false] rfl rfl (by kernel_rfl) (fun _ _ _ h => h) (Or.inl ⟨by rfl, ?_⟩) hHeld ?_ ?_
    rotate_left
    rotate_left
    ·simp only [Act.put, List.setIfInBounds_toArray, List.set_cons_zero, List.set_cons_succ]
     rfl
    rotate_left
    ·rintro w' ⟨⟨s1, s4, s3⟩, s5⟩
     go_simp
    refine take_ (i := 11) (N := some 27) (v := (.slice A4 x.f4.length c4)) (a' := ?_) #[true, true, true, true, true, true, true, false, true, true, true, true, false, true, true, true, false, false, false, false, false, false, false, false, false, false, false] rfl rfl (by kernel_rfl) (fun _ _ _ h => h) (Or.inl ⟨by rfl, ?_⟩) hHeld ?_ ?_
    rotate_left
    rotate_left
    ·simp only [Act.put, List.setIfInBounds_toArray, List.set_cons_zero, List.set_cons_succ]
     rfl
    rotate_left
    ·rintro w' ⟨⟨s1, s4, s3⟩, s5⟩
     go_simp
    refine take_ (i := 16) (N := some 32) (v := (.slice A3 x.f3.length c3)) (a' := ?_) #[true, true, true, true, true, true, true, false, true, true, true, true, false, true, true, true, true, false, false, false, false, false, false, false, false, false, false] rfl rfl (by kernel_rfl) (fun _ _ _ h => h) (Or.inl ⟨by rfl, ?_⟩) hHeld ?_ ?_
    rotate_left
    rotate_left
    ·simp only [Act.put, List.setIfInBounds_toArray, List.set_cons_zero, List.set_cons_succ]
     rfl
    rotate_left
    ·rintro w' ⟨⟨s1, s4, s3⟩, s5⟩
     go_simp
    refine one_ (i := 7) (N := some 23) #[true, true, true, true, true, true, true, true, true, true, true, true, false, true, true, true, true, false, false, false, false, false, false, false, false, false, false] rfl rfl (by kernel_rfl) (by decide) (fun K hK => ?_)
    refine goes_ Try.func54 (by kernel_rfl) rfl #[.slice A1 x.f1.length c1] (by rfl) rfl rfl (by first | rfl | (simp only [List.map_toArray, List.map_cons, List.map_nil]; rfl)) ?_
    refine (cloneU32_calls A1 c1 x.f1 _ (HC1.out _ hHeld.2) HG1.out).mono ?_
    rintro e w2 ⟨v1, rfl, ho, hb⟩
    obtain ⟨B1, b1, rfl⟩ := Kd.R_slice ho
    have HO1 := Aside0.mk (Kd.R_lower ho hHeld.2.size)
    refine ⟨_, rfl, hK.out _ _ (cells3_step hHeld hb) (fun hHeld => ?_)⟩
    clear ho hb
    clear hK K
    simp only [Act.put, List.setIfInBounds_toArray, List.set_cons_zero, List.set_cons_succ]
    refine one_ (i := 12) (N := some 28) #[true, true, true, true, true, true, true, true, true, true, true, true, true, true, true, true, true, false, false, false, false, false, false, false, false, false, false] rfl rfl (by kernel_rfl) (by decide) (fun K hK => ?_)
    refine goes_ Try.func54 (by kernel_rfl) rfl #[.slice A4 x.f4.length c4] (by rfl) rfl rfl (by first | rfl | (simp only [List.map_toArray, List.map_cons, List.map_nil]; rfl)) ?_
    refine (cloneU32_calls A4 c4 x.f4 _ (HC4.out _ hHeld.2) HG4.out).mono ?_
    rintro e w3 ⟨v4, rfl, ho, hb⟩
    obtain ⟨B4, b4, rfl⟩ := Kd.R_slice ho
    have HO4 := Aside0.mk (Kd.R_lower ho hHeld.2.size)
    replace HO1 := Aside0.mk (Kd.R_below HO1.out hb)
    refine ⟨_, rfl, hK.out _ _ (cells3_step hHeld hb) (fun hHeld => ?_)⟩
    clear ho hb
    clear hK K
    simp only [Act.put, List.setIfInBounds_toArray, List.set_cons_zero, List.set_cons_succ]
    refine one_ (i := 17) (N := some 33) #[true, true, true, true, true, true, true, true, true, true, true, true, true, true, true, true, true, true, false, false, false, false, false, false, false, false, false] rfl rfl (by kernel_rfl) (by decide) (fun K hK => ?_)
    refine goes_ Try.func87 (by kernel_rfl) rfl #[.slice A3 x.f3.length c3] (by rfl) rfl rfl (by first | rfl | (simp only [List.map_toArray, List.map_cons, List.map_nil]; rfl)) ?_
    refine (HCP.out _ hHeld.2).mono ?_
    rintro e w4 ⟨v3, rfl, ho, hb⟩
    obtain ⟨B3, b3, rfl⟩ := Kd.R_slice ho
    rw [HCL3.out] at ho ⊢
    have HO3 := Aside0.mk (Kd.R_lower ho hHeld.2.size)
    replace HO1 := Aside0.mk (Kd.R_below HO1.out hb)
    replace HO4 := Aside0.mk (Kd.R_below HO4.out hb)
    refine ⟨_, rfl, hK.out _ _ (cells3_step hHeld hb) (fun hHeld => ?_)⟩
    clear ho hb
    clear hK K
    simp only [Act.put, List.setIfInBounds_toArray, List.set_cons_zero, List.set_cons_succ]
    refine pure_ (i := 18) (N := some 34) (v := ?_) (a' := ?_) #[true, true, true, true, true, true, true, true, true, true, true, true, true, true, true, true, true, true, true, false, false, false, false, false, false, false, false] rfl rfl (by kernel_rfl) (fun _ _ _ h => h) (Or.inl ⟨by rfl, ?_⟩) ?_ ?_
    rotate_left
    ·intro w'
     go_simp
     with_reducible rfl
    rotate_left
    ·simp only [Act.put, List.setIfInBounds_toArray, List.set_cons_zero, List.set_cons_succ]
     rfl
    refine pure_ (i := 19) (N := some 35) (v := ?_) (a' := ?_) #[true, true, true, true, true, true, true, true, true, true, true, true, true, true, true, true, true, true, true, true, false, false, false, false, false, false, false] rfl rfl (by kernel_rfl) (fun _ _ _ h => h) (Or.inl ⟨by rfl, ?_⟩) ?_ ?_
    rotate_left
    ·intro w'
     go_simp
     with_reducible rfl
    rotate_left
    ·simp only [Act.put, List.setIfInBounds_toArray, List.set_cons_zero, List.set_cons_succ]
     rfl
    refine last_ (i := 20) (N := none) #[true, true, true, true, true, true, true, true, true, true, true, true, true, true, true, true, true, true, true, true, true, false, false, false, false, false, false] rfl rfl (by kernel_rfl) (by decide) (fun K hK => ?_)
    have hh4 : w4.heap[g]? = some (.cells cur 91 (0, 0)) := (hHeld.2.block g (blk_lt HPP.out.1)).trans HPP.out.1
    have hsz : i * 5 + 5 ≤ cur.size := by
     have h1 := HPP.out.2.2.2.2.2.1
     have h2 := HPP.out.2.2.2.1
     have h3 := HI.out
     have h4 : cur.size = cap * 5 := h1
     omega
    have hy1 := hHeld.1.1
    have hy4 := hHeld.1.2.1
    have hy3 := hHeld.1.2.2
    have hf1 := blk_frozen hh4 (i * 5 + 1)
    refine skip_ (w1 := ?_) (by rfl) rfl ?_ ?_
    rotate_left
    ·go_simp
     rfl
    refine hK.out _ _ ?_
    obtain ⟨cur5, hh5, hs5, ht5, hg5⟩ := put_row hh4 (.slice B1 x.f1.length b1) (show i * 5 + 1 < cur.size by omega)
    generalize w4.setCell ⟨g, i * 5 + 1, none⟩ (.slice B1 x.f1.length b1) = w5 at hh5 hg5 ⊢
    have hy4' := put_other hh4 hh5 ht5 (by omega) hy4
    have hy3' := put_other hh4 hh5 ht5 (by omega) hy3
    have hf4 := blk_frozen hh5 (i * 5 + 4)
    clear hy1 hy4 hy3 hf1
    clear hK K
    refine pure_ (i := 21) (N := some 36) (v := ?_) (a' := ?_) #[true, true, true, true, true, true, true, true, true, true, true, true, true, true, true, true, true, true, true, true, true, true, false, false, false, false, false] rfl rfl (by kernel_rfl) (fun _ _ _ h => h) (Or.inl ⟨by rfl, ?_⟩) ?_ ?_
    rotate_left
    ·intro w'
     go_simp
     with_reducible rfl
    rotate_left
    ·simp only [Act.put, List.setIfInBounds_toArray, List.set_cons_zero, List.set_cons_succ]
     rfl
    refine pure_ (i := 22) (N := some 37) (v := ?_) (a' := ?_) #[true, true, true, true, true, true, true, true, true, true, true, true, true, true, true, true, true, true, true, true, true, true, true, false, false, false, false] rfl rfl (by kernel_rfl) (fun _ _ _ h => h) (Or.inl ⟨by rfl, ?_⟩) ?_ ?_
    rotate_left
    ·intro w'
     go_simp
     with_reducible rfl
    rotate_left
    ·simp only [Act.put, List.setIfInBounds_toArray, List.set_cons_zero, List.set_cons_succ]
     rfl
    refine last_ (i := 23) (N := none) #[true, true, true, true, true, true, true, true, true, true, true, true, true, true, true, true, true, true, true, true, true, true, true, true, false, false, false] rfl rfl (by kernel_rfl) (by decide) (fun K hK => ?_)
    refine skip_ (w1 := ?_) (by rfl) rfl ?_ ?_
    rotate_left
    ·go_simp
     rfl
    refine hK.out _ _ ?_
    obtain ⟨cur6, hh6, hs6, ht6, hg6⟩ := put_row hh5 (.slice B4 x.f4.length b4) (show i * 5 + 4 < cur5.size by omega)
    generalize w5.setCell ⟨g, i * 5 + 4, none⟩ (.slice B4 x.f4.length b4) = w6 at hh6 hg6 ⊢
    have hy3 := put_other hh5 hh6 ht6 (by omega) hy3'
    have hf3 := blk_frozen hh6 (i * 5 + 3)
    clear hy4' hy3' hf4
    clear hK K
    refine pure_ (i := 24) (N := some 38) (v := ?_) (a' := ?_) #[true, true, true, true, true, true, true, true, true, true, true, true, true, true, true, true, true, true, true, true, true, true, true, true, true, false, false] rfl rfl (by kernel_rfl) (fun _ _ _ h => h) (Or.inl ⟨by rfl, ?_⟩) ?_ ?_
    rotate_left
    ·intro w'
     go_simp
     with_reducible rfl
    rotate_left
    ·simp only [Act.put, List.setIfInBounds_toArray, List.set_cons_zero, List.set_cons_succ]
     rfl
    refine pure_ (i := 25) (N := some 39) (v := ?_) (a' := ?_) #[true, true, true, true, true, true, true, true, true, true, true, true, true, true, true, true, true, true, true, true, true, true, true, true, true, true, false] rfl rfl (by kernel_rfl) (fun _ _ _ h => h) (Or.inl ⟨by rfl, ?_⟩) ?_ ?_
    rotate_left
    ·intro w'
     go_simp
     with_reducible rfl
    rotate_left
    ·simp only [Act.put, List.setIfInBounds_toArray, List.set_cons_zero, List.set_cons_succ]
     rfl
    refine last_ (i := 26) (N := none) #[true, true, true, true, true, true, true, true, true, true, true, true, true, true, true, true, true, true, true, true, true, true, true, true, true, true, true] rfl rfl (by kernel_rfl) (by decide) (fun K hK => ?_)
    refine skip_ (w1 := ?_) (by rfl) rfl ?_ ?_
    rotate_left
    ·go_simp
     rfl
    refine hK.out _ _ ?_
    obtain ⟨cur7, hh7, hs7, ht7, hg7⟩ := put_row hh6 (.slice B3 x.f3.length b3) (show i * 5 + 3 < cur6.size by omega)
    generalize w6.setCell ⟨g, i * 5 + 3, none⟩ (.slice B3 x.f3.length b3) = w7 at hh7 hg7 ⊢
    clear hy3 hf3
    clear hK K
    refine done_ (n := 0) (by kernel_rfl) ?_
    have hgw : w.heap.size ≤ g := HPP.out.2.1
    have hgl : g < wa.heap.size := blk_lt HPP.out.1
    have hv3 : w7.cell? ⟨g, i * 5 + 3, none⟩ = some (.slice B3 x.f3.length b3) := by
     rw [blk_cell hh7, ← Array.getElem?_toList, ht7, List.getElem?_set_self (by rw [Array.length_toList]; omega)]
    rw [ht6, ht5] at ht7
    have HK7 := Aside0.mk (Kp_grown (Kp_grown (Kp_grown (Kp_start (g := g) hHeld.2) hg5 (.inl rfl)) hg6 (.inl rfl)) hg7 (.inl rfl))
    have hb4 := below_step HB.out hHeld.2
    have hn4 : w.heap.size ≤ w4.heap.size := hb4.size
    have hb5 := hb4.grown hg5 hn4 (fun k hk => by injection hk with hk; omega)
    have hn5 : w.heap.size ≤ w5.heap.size := hb5.size
    have hb6 := hb5.grown hg6 hn5 (fun k hk => by injection hk with hk; omega)
    have hn6 : w.heap.size ≤ w6.heap.size := hb6.size
    have HB7 := Aside0.mk (hb6.grown hg7 hn6 (fun k hk => by injection hk with hk; omega))
    have hr1 := Kd.R_grown (Kd.R_grown (Kd.R_grown (R_ge HO1.out hgl) hg5 (fun k hk e => hk (by injection e))) hg6 (fun k hk e => hk (by injection e))) hg7 (fun k hk e => hk (by injection e))
    have hr4 := Kd.R_grown (Kd.R_grown (Kd.R_grown (R_ge HO4.out hgl) hg5 (fun k hk e => hk (by injection e))) hg6 (fun k hk e => hk (by injection e))) hg7 (fun k hk e => hk (by injection e))
    have hr3 := Kd.R_grown (Kd.R_grown (Kd.R_grown (R_ge HO3.out hgl) hg5 (fun k hk e => hk (by injection e))) hg6 (fun k hk e => hk (by injection e))) hg7 (fun k hk e => hk (by injection e))
    have HR1 := Aside0.mk hr1
    have HR4 := Aside0.mk hr4
    have HR3 := Aside0.mk hr3
    have HH7 := Aside0.mk hh7
    have HT7 := Aside0.mk ht7
    have HS7 := Aside0.mk (show cur7.size = cur.size by omega)
    have HGW := Aside0.mk hgw
    have HGL := Aside0.mk hgl
    have HEND := Aside0.mk (fun (W' : World) (v3 : Value) (hv : v3 = .slice B3 x.f3.length b3) (h1 : Kd.R (Kd.int .u32) 28 W' wa.heap.size (fun k => k ≠ g) (.slice B1 x.f1.length b1) x.f1) (h4 : Kd.R (Kd.int .u32) 28 W' wa.heap.size (fun k => k ≠ g) (.slice B4 x.f4.length b4) x.f4) (h3 : Kd.R k106 106 W' wa.heap.size (fun k => k ≠ g) v3 x.f3) (hh : W'.heap[g]? = some (.cells cur7 91 (0, 0))) (hk : Kp g wa W') => (by
     subst hv
     have hwl : w.heap.size ≤ wa.heap.size := HB.out.size
     refine PR_put HPP.out hh HS7.out (fun j hj => by rw [HT7.out]; exact seg5_ne _ _ _ _ _ _ hj) (fun y hy => ?_) (fun k h5 h6 => hk.2 k h5 h6)
     rw [HX.out] at hy
     obtain rfl := Option.some.inj hy
     rw [HT7.out, show seg (((cur.toList.set (i * 5 + 1) (.slice B1 x.f1.length b1)).set (i * 5 + 4) (.slice B4 x.f4.length b4)).set (i * 5 + 3) (.slice B3 x.f3.length b3)) k91.sz i = _ from seg5 _ _ _ _ _ _ _ _ _ _ HSG.out.symm]
     exact k91_mkM _ _ _ _ (Kd.R_lower h1 hwl) (Kd.R_lower h3 hwl) (Kd.R_lower h4 hwl) : PR k91 91 w W' w.heap.size g l.length cap (i + 1) l cur7))
    clear hgw hgl ht7 hb4 hn4 hb5 hn5 hb6 hn6 hr1 hr4 hr3 hh7 hh4 hh5 hh6 hs5 hs6 hs7 ht5 ht6 hg5 hg6 hg7 hsz hHeld
    by_cases hn3 : x.f3.length = 0
    ·have e3 : x.f3 = [] := List.eq_nil_of_length_eq_zero hn3
     have e4 : cs3 = [] := List.eq_nil_of_length_eq_zero (by rw [HCL3.out]; exact hn3)
     have hend := HEND.out w7 _ rfl HR1.out HR4.out (by
      have h := HR3.out
      rw [e4] at h
      rw [e3]
      have h2 := R_raw_nil (d := k106) h rfl
      rw [e3] at h2
      exact h2) HH7.out HK7.out
     have HEN := Aside0.mk hend
     rw [hn3] at hv3
     clear e3 e4 hend
     go_wp2
     go_loopg [45] 0 (fun kq v45 w' => v45 = .int .i64 0 ∧ kq = 0 ∧ w' = w7)
     case atStart => exact ⟨rfl, rfl, rfl⟩
     case round =>
      obtain ⟨rfl, rfl, rfl⟩ := hrel
      go_wp2
      go_roundg k1
      case measure => omega
      case rel => exact ⟨i + 1, rfl, ⟨by have := HI.out; omega⟩, ⟨cur7, HEN.out⟩, HB7⟩
    ·obtain ⟨g3, rfl⟩ : ∃ g3, B3 = some ⟨g3, 0, none⟩ := by
      cases B3 with
      | none => exact absurd (C_nil_eq (Kd.R_reads' HR3.out).2.2) (fun e => hn3 (by rw [← HCL3.out, e]; rfl))
      | some ad =>
       obtain ⟨g3, rfl⟩ := Kd.R_head HR3.out
       exact ⟨g3, rfl⟩
     obtain ⟨cur30, hP30⟩ := PR_start (d := k106) (xs := x.f3) (w := w) HR3.out HCL3.out HCK3.out
     have HP30 := Aside0.mk hP30
     have h31 := Aside0.mk (R_and HR1.out hP30.1 (by decide))
     have h34 := Aside0.mk (R_and HR4.out hP30.1 (by decide))
     clear hP30 hn3
     go_wp2
     go_loopg [45] x.f3.length (fun kq v45 w' => ∃ k : Nat, v45 = .int .i64 k ∧ Aside0 (k + kq = x.f3.length) ∧ Aside0 (∃ cur3, PR k106 106 w w' wa.heap.size g3 x.f3.length b3 k x.f3 cur3) ∧ Aside0 (w'.heap[g]? = some (.cells cur7 91 (0, 0))) ∧ Aside0 (Kd.R (Kd.int .u32) 28 w' wa.heap.size (fun k => k ≠ g ∧ k ≠ g3) (.slice B1 x.f1.length b1) x.f1) ∧ Aside0 (Kd.R (Kd.int .u32) 28 w' wa.heap.size (fun k => k ≠ g ∧ k ≠ g3) (.slice B4 x.f4.length b4) x.f4) ∧ Aside0 (Kp g wa w') ∧ Aside0 (Below w.heap.size w w'))
     case atStart => exact ⟨0, rfl, ⟨by omega⟩, ⟨cur30, HP30.out⟩, HH7, h31, h34, HK7, HB7⟩
     case round =>
      obtain ⟨k, rfl, JI, JP, JH, J1, J4, JK, JB⟩ := hrel
      have hv3r : wr.cell? ⟨g, i * 5 + 3, none⟩ = some (.slice (some ⟨g3, 0, none⟩) x.f3.length b3) := by
       rw [blk_cell JH.out, ← blk_cell HH7.out]
       exact hv3
      clear hv3
      cases gk with
      | zero =>
       have hltN : decide (k < x.f3.length) = false := decide_eq_false (by have := JI.out; omega)
       have HEN : Aside0 (PR k91 91 w wr w.heap.size g l.length cap (i + 1) l cur7) := ⟨by
        obtain ⟨cur3, hp3⟩ := JP.out
        rw [show k = x.f3.length by have := JI.out; omega] at hp3
        have h3 : Kd.R k106 106 wr wa.heap.size (fun k => k ≠ g) (.slice (some ⟨g3, 0, none⟩) x.f3.length b3) x.f3 := R_ge (PR_end hp3) HGL.out
        exact HEND.out wr _ rfl (Kd.R_mono J1.out (fun _ h => h.1)) (Kd.R_mono J4.out (fun _ h => h.1)) h3 JH.out JK.out⟩
       go_wp2
       go_roundg k1
       case measure => omega
       case rel => exact ⟨i + 1, rfl, ⟨by have := HI.out; omega⟩, ⟨cur7, HEN.out⟩, JB⟩
      | succ k2 =>
       obtain ⟨cur3, hp3⟩ := JP.out
       have hkl : k < x.f3.length := by have := JI.out; omega
       obtain ⟨y, cs, hy, hseg, hK, hcell⟩ := PR_cell hp3 hkl
       obtain ⟨A5, c5, rfl, hl5, hg5⟩ := k106_open hK
       have hd5 := hcell 1 _ rfl
       have HGY := Aside0.mk (HG3.out y (List.mem_of_getElem? hy))
       have HY := Aside0.mk hy
       have HSY := Aside0.mk hseg
       have HP3 := Aside0.mk hp3
       have HC5 := Aside0.mk (fun (W : World) (hb : Below wr.heap.size wr W) => Kd.C_below (Kd.C_below hg5 JB.out) hb)
       have HX3 := Aside0.mk (show x.f3.length ≤ 1000000000000000 by have := HG3L.out; omega)
       have hltN : decide (k < x.f3.length) = true := decide_eq_true hkl
       have q1 : (0 ≤ (k : Int)) = True := eq_true (by omega)
       have q2 : ((k : Int) < (x.f3.length : Int)) = True := eq_true (by omega)
       have hkr : IntKind.i64.wrap ((k : Int) + 1) = ((k + 1 : Nat) : Int) := (i64_w _).trans (by unfold wrap64; have := HX3.out; omega)
       have hkr2 : wrap64 ((k : Int) + 1) = ((k + 1 : Nat) : Int) := by unfold wrap64; have := HX3.out; omega
       clear hy hseg hp3 hK hcell hl5 hg5
       go_wp2
       refine start_ (n := 17) (S := fun w' => (w'.cell? ⟨g, i * 5 + 3, none⟩ = some (.slice (some ⟨g3, 0, none⟩) x.f3.length b3) ∧ w'.cell? ⟨g3, k * 2 + 1, none⟩ = some (.slice A5 y.f1.length c5)) ∧ Below wr.heap.size wr w') (ds := [16]) #[false, false, false, false, false, false, false, false, false, false, false, false, false, false, false, false, false] (by kernel_rfl) rfl rfl ⟨⟨hv3r, hd5⟩, below_drew1 (Below.refl wr.heap.size wr)⟩ (fun hHeld => ?_)
       refine pure_ (i := 0) (N := some 48) (v := ?_) (a' := ?_) #[true, false, false, false, false, false, false, false, false, false, false, false, false, false, false, false, false] rfl rfl (by kernel_rfl) (fun _ _ _ h => h) (Or.inl ⟨by rfl, ?_⟩) ?_ ?_
       rotate_left
       ·intro w'
        go_simp
        with_reducible rfl
       rotate_left
       ·simp only [Act.put, List.setIfInBounds_toArray, List.set_cons_zero, List.set_cons_succ]
        rfl
       refine pure_ (i := 1) (N := some 49) (v := ?_) (a' := ?_) #[true, true, false, false, false, false, false, false, false, false, false, false, false, false, false, false, false] rfl rfl (by kernel_rfl) (fun _ _ _ h => h) (Or.inl ⟨by rfl, ?_⟩) ?_ ?_
       rotate_left
       ·intro w'
        go_simp
        with_reducible rfl
       rotate_left
       ·simp only [Act.put, List.setIfInBounds_toArray, List.set_cons_zero, List.set_cons_succ]
        rfl
       refine pure_ (i := 2) (N := some 50) (v := ?_) (a' := ?_) #[true, true, true, false, false, false, false, false, false, false, false, false, false, false, false, false, false] rfl rfl (by kernel_rfl) (fun _ _ _ h => h) (Or.inl ⟨by rfl, ?_⟩) ?_ ?_
       rotate_left
       ·intro w'
        go_simp
        with_reducible rfl
       rotate_left
       ·simp only [Act.put, List.setIfInBounds_toArray, List.set_cons_zero, List.set_cons_succ]
        rfl
       refine pure_ (i := 4) (N := some 52) (v := ?_) (a' := ?_) #[true, true, true, false, true, false, false, false, false, false, false, false, false, false, false, false, false] rfl rfl (by kernel_rfl) (fun _ _ _ h => h) (Or.inl ⟨by rfl, ?_⟩) ?_ ?_
       rotate_left
       ·intro w'
        go_simp
        with_reducible rfl
       rotate_left
       ·simp only [Act.put, List.setIfInBounds_toArray, List.set_cons_zero, List.set_cons_succ]
        rfl
       refine pure_ (i := 5) (N := some 53) (v := ?_) (a' := ?_) #[true, true, true, false, true, true, false, false, false, false, false, false, false, false, false, false, false] rfl rfl (by kernel_rfl) (fun _ _ _ h => h) (Or.inl ⟨by rfl, ?_⟩) ?_ ?_
       rotate_left
       ·intro w'
        go_simp
        with_reducible rfl
       rotate_left
       ·simp only [Act.put, List.setIfInBounds_toArray, List.set_cons_zero, List.set_cons_succ]
        rfl
       refine pure_ (i := 6) (N := some 54) (v := ?_) (a' := ?_) #[true, true, true, false, true, true, true, false, false, false, false, false, false, false, false, false, false] rfl rfl (by kernel_rfl) (fun _ _ _ h => h) (Or.inl ⟨by rfl, ?_⟩) ?_ ?_
       rotate_left
       ·intro w'
        go_simp
        with_reducible rfl
       rotate_left
       ·simp only [Act.put, List.setIfInBounds_toArray, List.set_cons_zero, List.set_cons_succ]
        rfl
       refine pure_ (i := 7) (N := some 55) (v := ?_) (a' := ?_) #[true, true, true, false, true, true, true, true, false, false, false, false, false, false, false, false, false] rfl rfl (by kernel_rfl) (fun _ _ _ h => h) (Or.inl ⟨by rfl, ?_⟩) ?_ ?_
       rotate_left
       ·intro w'
        go_simp
        with_reducible rfl
       rotate_left
       ·simp only [Act.put, List.setIfInBounds_toArray, List.set_cons_zero, List.set_cons_succ]
        rfl
       refine pure_ (i := 9) (N := some 57) (v := ?_) (a' := ?_) #[true, true, true, false, true, true, true, true, false, true, false, false, false, false, false, false, false] rfl rfl (by kernel_rfl) (fun _ _ _ h => h) (Or.inl ⟨by rfl, ?_⟩) ?_ ?_
       rotate_left
       ·intro w'
        go_simp
        with_reducible rfl
       rotate_left
       ·simp only [Act.put, List.setIfInBounds_toArray, List.set_cons_zero, List.set_cons_succ]
        rfl
       refine take_ (i := 3) (N := some 51) (v := (.slice (some ⟨g3, 0, none⟩) x.f3.length b3)) (a' := ?_) #[true, true, true, true, true, true, true, true, false, true, false, false, false, false, false, false, false] rfl rfl (by kernel_rfl) (fun _ _ _ h => h) (Or.inl ⟨by rfl, ?_⟩) hHeld ?_ ?_
       rotate_left
       rotate_left
       ·simp only [Act.put, List.setIfInBounds_toArray, List.set_cons_zero, List.set_cons_succ]
        rfl
       rotate_left
       ·rintro w' ⟨⟨s1, s2⟩, s5⟩
        go_simp
       refine take_ (i := 8) (N := some 56) (v := (.slice (some ⟨g3, 0, none⟩) x.f3.length b3)) (a' := ?_) #[true, true, true, true, true, true, true, true, true, true, false, false, false, false, false, false, false] rfl rfl (by kernel_rfl) (fun _ _ _ h => h) (Or.inl ⟨by rfl, ?_⟩) hHeld ?_ ?_
       rotate_left
       rotate_left
       ·simp only [Act.put, List.setIfInBounds_toArray, List.set_cons_zero, List.set_cons_succ]
        rfl
       rotate_left
       ·rintro w' ⟨⟨s1, s2⟩, s5⟩
        go_simp
       refine pure_ (i := 10) (N := some 58) (v := ?_) (a' := ?_) #[true, true, true, true, true, true, true, true, true, true, true, false, false, false, false, false, false] rfl rfl (by kernel_rfl) (fun _ _ _ h => h) (Or.inl ⟨by rfl, ?_⟩) ?_ ?_
       rotate_left
       ·intro w'
        go_simp
        with_reducible rfl
       rotate_left
       ·simp only [Act.put, List.setIfInBounds_toArray, List.set_cons_zero, List.set_cons_succ]
        rfl
       refine pure_ (i := 11) (N := some 59) (v := ?_) (a' := ?_) #[true, true, true, true, true, true, true, true, true, true, true, true, false, false, false, false, false] rfl rfl (by kernel_rfl) (fun _ _ _ h => h) (Or.inl ⟨by rfl, ?_⟩) ?_ ?_
       rotate_left
       ·intro w'
        go_simp
        with_reducible rfl
       rotate_left
       ·simp only [Act.put, List.setIfInBounds_toArray, List.set_cons_zero, List.set_cons_succ]
        rfl
       refine take_ (i := 12) (N := some 60) (v := (.slice A5 y.f1.length c5)) (a' := ?_) #[true, true, true, true, true, true, true, true, true, true, true, true, true, false, false, false, false] rfl rfl (by kernel_rfl) (fun _ _ _ h => h) (Or.inl ⟨by rfl, ?_⟩) hHeld ?_ ?_
       rotate_left
       rotate_left
       ·simp only [Act.put, List.setIfInBounds_toArray, List.set_cons_zero, List.set_cons_succ]
        rfl
       rotate_left
       ·rintro w' ⟨⟨s1, s2⟩, s5⟩
        go_simp
       refine one_ (i := 13) (N := some 61) #[true, true, true, true, true, true, true, true, true, true, true, true, true, true, false, false, false] rfl rfl (by kernel_rfl) (by decide) (fun K hK => ?_)
       refine goes_ Try.func55 (by kernel_rfl) rfl #[.slice A5 y.f1.length c5] (by rfl) rfl rfl (by first | rfl | (simp only [List.map_toArray, List.map_cons, List.map_nil]; rfl)) ?_
       refine (cloneByte_calls A5 c5 y.f1 _ (HC5.out _ hHeld.2) HGY.out).mono ?_
       rintro e w8 ⟨v5, rfl, ho, hb⟩
       obtain ⟨B5, b5, rfl⟩ := Kd.R_slice ho
       have HO5 := Aside0.mk (Kd.R_lower ho hHeld.2.size)
       refine ⟨_, rfl, hK.out _ _ (cells2_step hHeld hb) (fun hHeld => ?_)⟩
       clear ho hb
       clear hK K
       simp only [Act.put, List.setIfInBounds_toArray, List.set_cons_zero, List.set_cons_succ]
       refine pure_ (i := 14) (N := some 62) (v := ?_) (a' := ?_) #[true, true, true, true, true, true, true, true, true, true, true, true, true, true, true, false, false] rfl rfl (by kernel_rfl) (fun _ _ _ h => h) (Or.inl ⟨by rfl, ?_⟩) ?_ ?_
       rotate_left
       ·intro w'
        go_simp
        with_reducible rfl
       rotate_left
       ·simp only [Act.put, List.setIfInBounds_toArray, List.set_cons_zero, List.set_cons_succ]
        rfl
       refine pure_ (i := 15) (N := some 63) (v := ?_) (a' := ?_) #[true, true, true, true, true, true, true, true, true, true, true, true, true, true, true, true, false] rfl rfl (by kernel_rfl) (fun _ _ _ h => h) (Or.inl ⟨by rfl, ?_⟩) ?_ ?_
       rotate_left
       ·intro w'
        go_simp
        with_reducible rfl
       rotate_left
       ·simp only [Act.put, List.setIfInBounds_toArray, List.set_cons_zero, List.set_cons_succ]
        rfl
       refine last_ (i := 16) (N := none) #[true, true, true, true, true, true, true, true, true, true, true, true, true, true, true, true, true] rfl rfl (by kernel_rfl) (by decide) (fun K hK => ?_)
       have hh8 : w8.heap[g3]? = some (.cells cur3 106 (0, 0)) := (hHeld.2.block g3 (blk_lt HP3.out.1)).trans HP3.out.1
       have hd8 := hHeld.1.2
       have hf8 := blk_frozen hh8 (k * 2 + 1)
       refine skip_ (w1 := ?_) (by rfl) rfl ?_ ?_
       rotate_left
       ·go_simp
        rfl
       refine hK.out _ _ ?_
       obtain ⟨cur9, hh9, hs9, ht9, hg9⟩ := put_row hh8 (.slice B5 y.f1.length b5) (show k * 2 + 1 < cur3.size by
        have h1 : cur3.size = b3 * 2 := HP3.out.2.2.2.2.2.1
        have h2 := HP3.out.2.2.2.1
        have h3 := JI.out
        omega)
       generalize w8.setCell ⟨g3, k * 2 + 1, none⟩ (.slice B5 y.f1.length b5) = w9 at hh9 hg9 ⊢
       clear hd8 hf8
       clear hK K
       refine done_ (n := 0) (by kernel_rfl) ?_
       have hgl3 : g3 < wr.heap.size := blk_lt HP3.out.1
       have hgw3 : wa.heap.size ≤ g3 := HP3.out.2.1
       have hne : g3 ≠ g := by have := HGL.out; omega
       have hgl := HGL.out
       have hgw := HGW.out
       have hwl : w.heap.size ≤ wa.heap.size := HB.out.size
       have hm9 : ∀ k', k' ≠ g3 → k' < wr.heap.size → w9.heap[k']? = wr.heap[k']? := fun k' h5 h6 => (hg9.block k' (Nat.lt_of_lt_of_le h6 hHeld.2.size) (fun e => h5 (by injection e))).trans (hHeld.2.block k' h6)
       have hr5 := Kd.R_grown (R_ge HO5.out hgl3) hg9 (fun k hk e => hk (by injection e))
       have hB8 := below_step JB.out hHeld.2
       have hB9 := Aside0.mk (hB8.grown hg9 (show w.heap.size ≤ w8.heap.size from hB8.size) (fun k hk => by injection hk with hk; omega))
       have hK9 := Aside0.mk (Kp_grown (Kp_below JK.out (show Below wr.heap.size wr w8 from hHeld.2)) hg9 (.inr hgw3))
       have hG9 := Aside0.mk ((hm9 g (fun e => hne e.symm) (blk_lt JH.out)).trans JH.out)
       have h91 := Aside0.mk (Kd.R_step J1.out (fun k' hk' hl => hm9 k' hk'.2 hl))
       have h94 := Aside0.mk (Kd.R_step J4.out (fun k' hk' hl => hm9 k' hk'.2 hl))
       have hp9 := Aside0.mk (PR_put HP3.out hh9 hs9 (fun j hj => by rw [ht9]; exact (seg_set _ 2 k 1 j _ (by decide)).trans (if_neg hj)) (fun z hz => by
        rw [HY.out] at hz
        obtain rfl := Option.some.inj hz
        rw [ht9, show seg (cur3.toList.set (k * 2 + 1) (.slice B5 y.f1.length b5)) k106.sz k = _ from seg2 _ _ _ _ _ HSY.out.symm]
        exact k106_mkM _ _ _ _ (Kd.R_lower hr5 JK.out.1)) hm9)
       clear hHeld hgl3 hgw3 hne hgl hgw hwl hm9 hr5 hB8 hh9 hs9 ht9 hg9 hh8
       go_wp2
       go_roundg k2
       case measure => omega
       case rel => exact ⟨k + 1, rfl, ⟨by have := JI.out; omega⟩, ⟨_, hp9.out⟩, hG9, h91, h94, hK9, hB9⟩
end Go.Proofs.Ytfpkakedlapmkaa.Q
end
section
set_option linter.unusedSimpArgs false
set_option linter.unusedVariables false
namespace Go.Proofs.Ytfpkakedlapmkaa.Q
open Go.RowKit Go.Proofs.YtfpkakedlapmkaaW.PrintWords Go.Proofs.YtfpkakedlapmkaaW.PrintLast Go.Proofs.YtfpkakedlapmkaaW.PrintMore
attribute [local go_sem] max2_int min2_int max_two min_two max_three min_three max_four min_four
def isP (s : ByteArray) (x : S106) : Bool := x.f0.toList == s.toList
theorem namedP_calls (s : ByteArray) (w : World) :
  Calls Try.prog 91 #[.string s] w fun e w' => ∃ gb, e = .returned (.func (.func 99) #[] #[.pointer (some ⟨gb, 0, none⟩)]) ∧ w.heap.size ≤ gb ∧ w'.heap[gb]? = some (.cells #[.string s] 9 (0, 0)) ∧ Below w.heap.size w w' := by
 have HB := Aside0.mk (Below.refl w.heap.size w)
 go_enter Try.func91, Try.ntmps91
 go_wp2_with (first
  | ((with_reducible refine gate_dst (N := 1) rfl ?_); refine box_event ?hg (N := 1) ?hd (cs := #[.string s]) (t := 9) ?hr ?_; (case hd => rfl); (case hg => rfl); (case hr => first | (go_simp; done) | (go_simp; rfl)); intro gb hg w1 hbox hb; have BK := Aside0.mk hbox; have HB := Aside0.mk hb; have GB := Aside0.mk (show w.heap.size ≤ gb from hg ▸ Nat.le_refl _); clear hbox hb hg))
 go_ret
 exact ⟨gb, rfl, GB.out, BK.out, HB.out⟩
set_option maxHeartbeats 1000000 in
theorem namedPC_calls (x : S106) (A1 : Option Addr) (c1 : Nat) (s : ByteArray) (gb : Nat) (w : World) (hh : w.heap[gb]? = some (.cells #[.string s] 9 (0, 0))) :
  Calls Try.prog 99 #[.agg #[.string x.f0, .slice A1 x.f1.length c1], .pointer (some ⟨gb, 0, none⟩)] w fun e w' => e = .returned (.bool (isP s x)) ∧ Below w.heap.size w w' := by
 have hu106 := Try.underlying106
 have hlt : gb < w.heap.size := by
  rw [Array.getElem?_eq_some_iff] at hh
  exact hh.1
 have HH := Aside0.mk hh
 have HLT := Aside0.mk hlt
 clear hh hlt
 go_enter Try.func99, Try.ntmps99
 go_wp2_with (first
  | ((with_reducible refine gate_dst (N := 2) rfl ?_); refine box_event ?hg (N := 2) ?hd (cs := #[.string x.f0, .slice A1 x.f1.length c1]) (t := 106) ?hr ?_; (case hd => rfl); (case hg => rfl); (case hr => first | (go_simp; done) | (go_simp; rfl)); intro ga hg w1 hbox hb; have BK := Aside0.mk hbox; have hz0 := (blk_cell BK.out 0).trans rfl; have hz1 := (blk_cell BK.out 1).trans rfl; have hf0 := blk_frozen BK.out 0; have hf1 := blk_frozen BK.out 1; have hz2 : w1.cell? ⟨gb, 0, none⟩ = some (.string s) := (hb.cell (p := ⟨gb, 0, none⟩) HLT.out).trans ((blk_cell HH.out 0).trans rfl); have HB := Aside0.mk hb; clear hbox hb hg))
 go_ret
 exact ⟨rfl, HB.out⟩
set_option maxHeartbeats 2000000 in
set_option maxRecDepth 100000 in
theorem indexProp_calls (s : ByteArray) (gb : Nat) (A : Option Addr) (c : Nat) (l : List S106) (w : World) (hC : Kd.C k106 w A l.length l) (hh : w.heap[gb]? = some (.cells #[.string s] 9 (0, 0))) :
  Calls Try.prog 98 #[.slice A l.length c, .func (.func 99) #[] #[.pointer (some ⟨gb, 0, none⟩)]] w fun e w' => e = .returned (.int .i64 (idxP (isP s) l)) ∧ Below w.heap.size w w' := by
 have hu106 := Try.underlying106
 have hlt := blk_lt hh
 have HC := Aside0.mk hC
 have HF := Aside0.mk (fun (x : S106) (A1 : Option Addr) (c1 : Nat) (W : World) (hb : Below w.heap.size w W)  => namedPC_calls x A1 c1 s gb W (by rw [hb.block gb hlt]; exact hh))
 clear hC hh
 go_enter Try.func98, Try.ntmps98
 go_wp2
 go_loopg [8] l.length (fun kq v8 w' => ∃ i : Int, v8 = .int .i64 i ∧ Aside0 (0 ≤ i ∧ i + kq = l.length) ∧ Aside0 (∀ j : Nat, j < i.toNat → (isP s) (l.getD j z106) = false) ∧ Aside0 (Below w.heap.size w w'))
 case atStart => exact ⟨0, rfl, ⟨by omega, by omega⟩, ⟨fun j hj => absurd hj (by simp)⟩, ⟨Below.refl _ _⟩⟩
 case round =>
  obtain ⟨i, rfl, HI, HZ, HB⟩ := hrel
  cases gk with
  | zero =>
   have hlt : decide (i < (l.length : Int)) = false := decide_eq_false (by have := HI.out; omega)
   go_wp2
   go_ret
   have hz := HZ.out
   have hi := HI.out
   refine ⟨?_, HB.out⟩
   rw [idxP_drop (isP s) z106 l i.toNat hz, List.drop_eq_nil_of_le (by omega)]
   rfl
  | succ k1 =>
   have hi := HI.out
   have hm := Kd.C_max HC.out
   have hlt : decide (i < (l.length : Int)) = true := decide_eq_true (by omega)
   have p1 : (0 ≤ i) = True := eq_true (by omega)
   have p2 : (i < (l.length : Int)) = True := eq_true (by omega)
   obtain ⟨ad, A1, c1, eA, hx0, hx1, hl1, hg1⟩ := at_T106 (Kd.C_below HC.out HB.out) i (by omega) (by omega)
   cases eA
   have HGD := Aside0.mk (show rd_T106 l i = l.getD i.toNat z106 from rfl)
   have HIN := Aside0.mk (show (isP s) (rd_T106 l i) = true → idxP (isP s) l = i from fun h => by
    rw [idxP_here (isP s) z106 l i.toNat HZ.out (by omega) h]
    omega)
   have hwr : IntKind.i64.wrap (i + 1) = i + 1 := (i64_w _).trans (by unfold wrap64; omega)
   have hwr2 : wrap64 (i + 1) = i + 1 := by unfold wrap64; omega
   clear hl1 hg1
   clear hi hm
   obtain ⟨b, hb0⟩ : ∃ b, b = (isP s) (rd_T106 l i) := ⟨_, rfl⟩
   have HBP := Aside0.mk hb0
   cases b with
   | true =>
    clear hb0
    go_wp2_with (first
     | (go_at_call 99; (with_reducible refine (HF.out (rd_T106 l i) A1 c1 _ HB.out ).mono ?_); rintro e w2 ⟨rfl, hb⟩; rw [← HBP.out]; have HB2 := Aside0.mk (below_step HB.out hb); clear hb))
    go_ret
    exact ⟨by rw [HIN.out HBP.out.symm]; rfl, HB2.out⟩
   | false =>
    clear hb0
    go_wp2_with (first
     | (go_at_call 99; (with_reducible refine (HF.out (rd_T106 l i) A1 c1 _ HB.out ).mono ?_); rintro e w2 ⟨rfl, hb⟩; rw [← HBP.out]; have HB2 := Aside0.mk (below_step HB.out hb); clear hb))
    go_roundg k1
    case measure => omega
    case rel =>
     have hi := HI.out
     refine ⟨i + 1, rfl, ⟨by omega, by omega⟩, ⟨fun j hj => ?_⟩, HB2⟩
     by_cases hji : j = i.toNat
     ·subst hji
      rw [← HGD.out]
      exact HBP.out.symm
     ·exact HZ.out j (by omega)
theorem containsProp_calls (s : ByteArray) (gb : Nat) (A : Option Addr) (c : Nat) (l : List S106) (w : World) (hC : Kd.C k106 w A l.length l) (hh : w.heap[gb]? = some (.cells #[.string s] 9 (0, 0))) :
  Calls Try.prog 90 #[.slice A l.length c, .func (.func 99) #[] #[.pointer (some ⟨gb, 0, none⟩)]] w fun e w' => e = .returned (.bool (l.any (isP s))) ∧ Below w.heap.size w w' := by
 have HIX := Aside0.mk (indexProp_calls s gb A c l w hC hh)
 have HAN := Aside0.mk (idxP_any (isP s) l)
 clear hC hh
 go_enter Try.func90, Try.ntmps90
 go_wp2_with (go_at_call 98; refine HIX.out.mono ?_; rintro e w1 ⟨rfl, hb⟩; have HB := Aside0.mk hb; clear hb)
 go_ret
 exact ⟨by rw [← HAN.out]; rfl, HB.out⟩
end Go.Proofs.Ytfpkakedlapmkaa.Q
end
section
namespace Go.Proofs.Ytfpkakedlapmkaa.Q
open Go.RowKit Go.Proofs.YtfpkakedlapmkaaW.PrintWords Go.Proofs.YtfpkakedlapmkaaW.PrintLast Go.Proofs.YtfpkakedlapmkaaW.PrintMore
set_option linter.unusedVariables false
set_option linter.unusedSimpArgs false

attribute [local go_sem] max2_int min2_int max_two min_two max_three min_three max_four min_four
/-! ### prop_Named: function 73 -/
mutual
def prop_Named.j0 : Nat → ByteArray → Bool → Option (Bool)
 | 0, _, _ => none
 | k + 1, x0, x11 => if x11 = true then (some false) else (prop_Named.l0 k x0 (x0.size : Int) 0)
def prop_Named.l0 : Nat → ByteArray → Int → Int → Option (Bool)
 | 0, _, _, _ => none
 | k + 1, x0, x13, x14 => if x14 < x13 then (if 0 ≤ x14 then (if x14 < (x0.size : Int) then (if (bt x0 x14) ≤ 32 then (prop_Named.j2 k x0 (bt x0 x14) x13 x14 true) else (if (bt x0 x14) > 126 then (prop_Named.j2 k x0 (bt x0 x14) x13 x14 true) else (if (bt x0 x14) ≥ 65 then (prop_Named.j2 k x0 (bt x0 x14) x13 x14 (decide ((bt x0 x14) ≤ 90))) else (prop_Named.j2 k x0 (bt x0 x14) x13 x14 false)))) else (none)) else (none)) else (some true)
def prop_Named.j2 : Nat → ByteArray → Int → Int → Int → Bool → Option (Bool)
 | 0, _, _, _, _, _ => none
 | k + 1, x0, x4, x13, x14, x20 => if x20 = true then (some false) else ((strings_IndexByte.f (⟨#[47, 92, 58, 91, 93, 64]⟩ : ByteArray) x4).bind fun t74001 => (if t74001 ≥ 0 then (some false) else (prop_Named.l0 k x0 x13 (wrap64 (x14 + 1)))))
end
def prop_Named.f (k : Nat) (a0 : ByteArray) : Option (Bool) := if a0.toList = ([] : List UInt8) then (prop_Named.j0 k a0 true) else (prop_Named.j0 k a0 (decide ((a0.size : Int) > 31)))
set_option maxHeartbeats 8000000 in
set_option maxRecDepth 100000 in
theorem prop_Named.calls (k : Nat) (a0 : ByteArray) (r : Bool) (w : World) (h : prop_Named.f k a0 = some r) :
  Calls Try.prog 73 #[.string a0] w fun e w' => e = .returned (.bool r) ∧ Below w.heap.size w w' := by
 have HB := Aside0.mk (Below.refl w.heap.size w)
 have H : (if a0.toList = ([] : List UInt8) then (prop_Named.j0 k a0 true) else (prop_Named.j0 k a0 (decide ((a0.size : Int) > 31)))) = some r := h
 clear h
 have HC2 := Aside0.mk H
 clear H
 go_enter Try.func73, Try.ntmps73
 go_upto_region 1 with (fail)
 go_cut [11] (fun v11 wc => ∃ (kq : Nat) (x11_1 : Bool), v11 = .bool x11_1 ∧ Aside0 (prop_Named.j0 kq a0 x11_1 = some r) ∧ Aside0 (kq ≤ k) ∧ Aside0 (Below w.heap.size w wc))
 case first =>
  have H := HC2.out
  clear HC2
  by_cases c3 : a0.toList = ([] : List UInt8)
  ·rw [if_pos c3] at H
   have c3b0 : (a0.toList == ([] : List UInt8)) = true := beq_iff_eq.mpr c3
   have c3b1 : (a0.toList != ([] : List UInt8)) = false := bne_eq_false_iff_eq.mpr c3
   clear c3
   (first | rw [c3b0] | (simp only [i64_w, i32_w]; rw [c3b0]) | skip)
   have H' := Aside0.mk H
   clear H
   go_wp2
   go_meet
   case rel => exact ⟨_, (true), (by first | rfl | (simp; done) | (simp [*]; done)), H', ⟨by first | omega | exact Nat.le_refl _⟩, ⟨by repeat (first | (with_reducible first | exact HB.out | apply below_alloc | apply pw_below_drewN | apply below_drew1) | exact HB.out)⟩⟩
  ·rw [if_neg c3] at H
   have c3b0 : (a0.toList == ([] : List UInt8)) = false := beq_eq_false_iff_ne.mpr c3
   have c3b1 : (a0.toList != ([] : List UInt8)) = true := bne_iff_ne.mpr c3
   (first | rw [c3b0] | (simp only [i64_w, i32_w]; rw [c3b0]) | skip)
   have H' := Aside0.mk H
   clear H
   go_wp2
   go_meet
   case rel => exact ⟨_, (decide ((a0.size : Int) > 31)), (by first | rfl | (simp; done) | (simp [*]; done)), H', ⟨by first | omega | exact Nat.le_refl _⟩, ⟨by repeat (first | (with_reducible first | exact HB.out | apply below_alloc | apply pw_below_drewN | apply below_drew1) | exact HB.out)⟩⟩
 case rest =>
  clear HC2
  try clear p2
  try clear c3
  try clear c3b0
  try clear c3b1
  obtain ⟨kq, x11_1, rfl, HA, HJ1, HB⟩ := hcut
  cases kq with
  | zero => exact absurd HA.out (by simp [prop_Named.j0])
  | succ kj1 =>
   have H := HA.out
   clear HA
   simp only [prop_Named.j0] at H
   by_cases c4 : x11_1 = true
   ·subst c4
    have H1 : (some false) = some r := by rw [if_pos rfl] at H; exact H
    clear H
    have H := H1
    clear H1
    obtain rfl := Option.some.inj H
    go_wp2
    go_ret
    exact ⟨by first | rfl | (simp [errW_none, errW_some] <;> rfl) | (simp [*, errW_none, errW_some] <;> rfl), by repeat (first | (with_reducible first | exact HB.out | apply below_alloc | apply pw_below_drewN | apply below_drew1) | exact HB.out)⟩
   ·replace c4 := Bool.eq_false_iff.mpr c4
    subst c4
    have H1 : (prop_Named.l0 kj1 a0 (a0.size : Int) 0) = some r := by rw [if_neg (show ¬ (false = true) by decide)] at H; exact H
    clear H
    have H := H1
    clear H1
    have H' := Aside0.mk H
    clear H
    go_wp2
    go_loopg [14] kj1 (fun kq v14 w' => ∃ (x14_2 : Int), v14 = .int .i64 x14_2 ∧ Aside0 (prop_Named.l0 kq a0 (a0.size : Int) x14_2 = some r) ∧ Aside0 (kq ≤ kj1) ∧ Aside0 (Below w.heap.size w w'))
    case atStart => exact ⟨(0), (by first | rfl | (simp; done) | (simp [*]; done)), H', ⟨Nat.le_refl _⟩, ⟨by repeat (first | (with_reducible first | exact HB.out | apply below_alloc | apply pw_below_drewN | apply below_drew1) | exact HB.out)⟩⟩
    case round =>
     clear H'
     try clear p2
     try clear c3
     try clear c3b0
     try clear c3b1
     try clear c4
     try clear p2
     obtain ⟨x14_2, rfl, HA, HK2, HB⟩ := hrel
     cases gk with
     | zero => exact absurd HA.out (by simp [prop_Named.l0])
     | succ k2 =>
      have H := HA.out
      clear HA
      simp only [prop_Named.l0] at H
      by_cases c5 : x14_2 < (a0.size : Int)
      ·rw [if_pos c5] at H
       have c5b0 : decide (x14_2 < (a0.size : Int)) = true := decide_eq_true c5
       clear c5
       by_cases c6 : 0 ≤ x14_2
       ·rw [if_pos c6] at H
        have c6b0 : decide (0 ≤ x14_2) = true := decide_eq_true c6
        clear c6
        by_cases c7 : x14_2 < (a0.size : Int)
        ·rw [if_pos c7] at H
         have c7b0 : decide (x14_2 < (a0.size : Int)) = true := decide_eq_true c7
         clear c7
         have HC9 := Aside0.mk H
         clear H
         have p8 : 0 ≤ (x14_2 : Int) := of_decide_eq_true (by first | (with_reducible assumption) | assumption)
         have q8 : x14_2 < (a0.size : Int) := of_decide_eq_true (by first | (with_reducible assumption) | assumption)
         have hx8 := bt_at a0 x14_2
         replace p8 := eq_true p8
         replace q8 := eq_true q8
         go_upto_region 7 with (fail)
         go_cut [20] (fun v20 wc => ∃ (kq : Nat) (x20_8 : Bool), v20 = .bool x20_8 ∧ Aside0 (prop_Named.j2 kq a0 (bt a0 x14_2) (a0.size : Int) x14_2 x20_8 = some r) ∧ Aside0 (kq ≤ k2) ∧ Aside0 (Below w.heap.size w wc))
         case first =>
          have H := HC9.out
          clear HC9
          by_cases c10 : (bt a0 x14_2) ≤ 32
          ·rw [if_pos c10] at H
           have c10b0 : decide ((bt a0 x14_2) ≤ 32) = true := decide_eq_true c10
           clear c10
           (first | rw [c10b0] | (simp only [i64_w, i32_w]; rw [c10b0]) | skip)
           have H' := Aside0.mk H
           clear H
           go_wp2
           go_meet
           case rel => exact ⟨_, (true), (by first | rfl | (simp; done) | (simp [*]; done)), H', ⟨by have := HJ1.out; have := HK2.out; first | omega | exact Nat.le_refl _⟩, ⟨by repeat (first | (with_reducible first | exact HB.out | apply below_alloc | apply pw_below_drewN | apply below_drew1) | exact HB.out)⟩⟩
          ·rw [if_neg c10] at H
           have c10b0 : decide ((bt a0 x14_2) ≤ 32) = false := decide_eq_false c10
           clear c10
           (first | rw [c10b0] | (simp only [i64_w, i32_w]; rw [c10b0]) | skip)
           by_cases c11 : (bt a0 x14_2) > 126
           ·rw [if_pos c11] at H
            have c11b0 : decide (126 < (bt a0 x14_2)) = true := decide_eq_true c11
            clear c11
            have H' := Aside0.mk H
            clear H
            go_wp2
            go_meet
            case rel => exact ⟨_, (true), (by first | rfl | (simp; done) | (simp [*]; done)), H', ⟨by have := HJ1.out; have := HK2.out; first | omega | exact Nat.le_refl _⟩, ⟨by repeat (first | (with_reducible first | exact HB.out | apply below_alloc | apply pw_below_drewN | apply below_drew1) | exact HB.out)⟩⟩
           ·rw [if_neg c11] at H
            have c11b0 : decide (126 < (bt a0 x14_2)) = false := decide_eq_false c11
            clear c11
            by_cases c12 : (bt a0 x14_2) ≥ 65
            ·rw [if_pos c12] at H
             have c12b0 : decide (65 ≤ (bt a0 x14_2)) = true := decide_eq_true c12
             clear c12
             have H' := Aside0.mk H
             clear H
             go_wp2
             go_meet
             case rel => exact ⟨_, (decide ((bt a0 x14_2) ≤ 90)), (by first | rfl | (simp; done) | (simp [*]; done)), H', ⟨by have := HJ1.out; have := HK2.out; first | omega | exact Nat.le_refl _⟩, ⟨by repeat (first | (with_reducible first | exact HB.out | apply below_alloc | apply pw_below_drewN | apply below_drew1) | exact HB.out)⟩⟩
            ·rw [if_neg c12] at H
             have c12b0 : decide (65 ≤ (bt a0 x14_2)) = false := decide_eq_false c12
             clear c12
             have H' := Aside0.mk H
             clear H
             go_wp2
             go_meet
             case rel => exact ⟨_, (false), (by first | rfl | (simp; done) | (simp [*]; done)), H', ⟨by have := HJ1.out; have := HK2.out; first | omega | exact Nat.le_refl _⟩, ⟨by repeat (first | (with_reducible first | exact HB.out | apply below_alloc | apply pw_below_drewN | apply below_drew1) | exact HB.out)⟩⟩
         case rest =>
          clear HC9
          try clear c1
          try clear p2
          try clear c3
          try clear c3b0
          try clear c3b1
          try clear c4
          try clear c5
          try clear c5b0
          try clear c6
          try clear c6b0
          try clear c7
          try clear c7b0
          try clear p8
          try clear q8
          try clear hx8
          try clear c10
          try clear c10b0
          try clear c11
          try clear c11b0
          try clear c12
          try clear c12b0
          try clear p2
          try clear p8
          try clear q8
          obtain ⟨kq, x20_8, rfl, HA, HJ8, HB⟩ := hcut
          cases kq with
          | zero => exact absurd HA.out (by simp [prop_Named.j2])
          | succ kj8 =>
           have H := HA.out
           clear HA
           simp only [prop_Named.j2] at H
           by_cases c13 : x20_8 = true
           ·subst c13
            have H1 : (some false) = some r := by rw [if_pos rfl] at H; exact H
            clear H
            have H := H1
            clear H1
            obtain rfl := Option.some.inj H
            go_wp2
            go_ret
            exact ⟨by first | rfl | (simp [errW_none, errW_some] <;> rfl) | (simp [*, errW_none, errW_some] <;> rfl), by repeat (first | (with_reducible first | exact HB.out | apply below_alloc | apply pw_below_drewN | apply below_drew1) | exact HB.out)⟩
           ·replace c13 := Bool.eq_false_iff.mpr c13
            subst c13
            have H1 : ((strings_IndexByte.f (⟨#[47, 92, 58, 91, 93, 64]⟩ : ByteArray) (bt a0 x14_2)).bind fun t74001 => (if t74001 ≥ 0 then (some false) else (prop_Named.l0 kj8 a0 (a0.size : Int) (wrap64 (x14_2 + 1))))) = some r := by rw [if_neg (show ¬ (false = true) by decide)] at H; exact H
            clear H
            have H := H1
            clear H1
            replace H := Option.bind_eq_some_iff.mp H
            obtain ⟨t74001, A140, H⟩ := H
            replace H : (if t74001 ≥ 0 then (some false) else (prop_Named.l0 kj8 a0 (a0.size : Int) (wrap64 (x14_2 + 1)))) = some r := H
            have A14 := Aside0.mk A140
            clear A140
            by_cases c15 : t74001 ≥ 0
            ·rw [if_pos c15] at H
             have c15b0 : decide (0 ≤ t74001) = true := decide_eq_true c15
             clear c15
             obtain rfl := Option.some.inj H
             go_wp2_with (first | ((with_reducible refine gate_callee (f := 92) rfl ?_); refine goesL_ (some 37) rfl rfl Try.func92 (by kernel_rfl) rfl #[.string (⟨#[47, 92, 58, 91, 93, 64]⟩ : ByteArray), .int .u8 (bt a0 x14_2)] rfl (by (try simp only [List.map_toArray, List.map_cons, List.map_nil]); first | done | rfl | (simp only [List.length_drop, List.length_take]; rfl)) ?_; (with_reducible refine (strings_IndexByte.calls (⟨#[47, 92, 58, 91, 93, 64]⟩ : ByteArray) (bt a0 x14_2) t74001 _ A14.out).mono ?_); rintro e w16 ⟨rfl, hb⟩; refine ⟨_, rfl, ?_⟩; have n0_ := Aside0.mk (below_step (by repeat (first | (with_reducible first | exact HB.out | apply below_alloc | apply pw_below_drewN | apply below_drew1) | exact HB.out)) hb); clear HB; have HB := n0_; clear n0_; (try clear hb); (try clear hb2); (try clear hk); (try clear hi)))
             go_ret
             exact ⟨by first | rfl | (simp [errW_none, errW_some] <;> rfl) | (simp [*, errW_none, errW_some] <;> rfl), by repeat (first | (with_reducible first | exact HB.out | apply below_alloc | apply pw_below_drewN | apply below_drew1) | exact HB.out)⟩
            ·rw [if_neg c15] at H
             have c15b0 : decide (0 ≤ t74001) = false := decide_eq_false c15
             clear c15
             have H' := Aside0.mk H
             clear H
             go_wp2_with (first | ((with_reducible refine gate_callee (f := 92) rfl ?_); refine goesL_ (some 37) rfl rfl Try.func92 (by kernel_rfl) rfl #[.string (⟨#[47, 92, 58, 91, 93, 64]⟩ : ByteArray), .int .u8 (bt a0 x14_2)] rfl (by (try simp only [List.map_toArray, List.map_cons, List.map_nil]); first | done | rfl | (simp only [List.length_drop, List.length_take]; rfl)) ?_; (with_reducible refine (strings_IndexByte.calls (⟨#[47, 92, 58, 91, 93, 64]⟩ : ByteArray) (bt a0 x14_2) t74001 _ A14.out).mono ?_); rintro e w17 ⟨rfl, hb⟩; refine ⟨_, rfl, ?_⟩; have n0_ := Aside0.mk (below_step (by repeat (first | (with_reducible first | exact HB.out | apply below_alloc | apply pw_below_drewN | apply below_drew1) | exact HB.out)) hb); clear HB; have HB := n0_; clear n0_; (try clear hb); (try clear hb2); (try clear hk); (try clear hi)))
             go_roundg kj8
             case measure => have := HJ1.out; have := HK2.out; have := HJ8.out; omega
             case rel => exact ⟨(wrap64 (x14_2 + 1)), (by first | rfl | (simp; done) | (simp [*]; done)), H', ⟨by have := HJ1.out; have := HK2.out; have := HJ8.out; omega⟩, ⟨by repeat (first | (with_reducible first | exact HB.out | apply below_alloc | apply pw_below_drewN | apply below_drew1) | exact HB.out)⟩⟩
        ·rw [if_neg c7] at H
         exact absurd H (by simp)
       ·rw [if_neg c6] at H
        exact absurd H (by simp)
      ·rw [if_neg c5] at H
       have c5b0 : decide (x14_2 < (a0.size : Int)) = false := decide_eq_false c5
       clear c5
       obtain rfl := Option.some.inj H
       go_wp2
       go_ret
       exact ⟨by first | rfl | (simp [errW_none, errW_some] <;> rfl) | (simp [*, errW_none, errW_some] <;> rfl), by repeat (first | (with_reducible first | exact HB.out | apply below_alloc | apply pw_below_drewN | apply below_drew1) | exact HB.out)⟩

end Go.Proofs.Ytfpkakedlapmkaa.Q
end
section
namespace Go.Proofs.Ytfpkakedlapmkaa.Q
open Go.RowKit Go.Proofs.YtfpkakedlapmkaaW.PrintWords Go.Proofs.YtfpkakedlapmkaaW.PrintLast Go.Proofs.YtfpkakedlapmkaaW.PrintMore
set_option linter.unusedVariables false
set_option linter.unusedSimpArgs false

attribute [local go_sem] max2_int min2_int max_two min_two max_three min_three max_four min_four
/-! ### tinderref05_Named: function 82 -/
mutual
def tinderref05_Named.j0 : Nat → ByteArray → Bool → Option (Bool)
 | 0, _, _ => none
 | k + 1, x0, x13 => if x13 = true then (some false) else (tinderref05_Named.l0 k x0 0)
def tinderref05_Named.l0 : Nat → ByteArray → Int → Option (Bool)
 | 0, _, _ => none
 | k + 1, x0, x3 => if x3 < (x0.size : Int) then (if 0 ≤ x3 then (if (bt x0 x3) < 33 then (tinderref05_Named.j2 k x0 x3 (bt x0 x3) true) else (if (bt x0 x3) > 126 then (tinderref05_Named.j2 k x0 x3 (bt x0 x3) true) else (if (bt x0 x3) ≥ 65 then (tinderref05_Named.j2 k x0 x3 (bt x0 x3) (decide ((bt x0 x3) ≤ 90))) else (tinderref05_Named.j2 k x0 x3 (bt x0 x3) false)))) else (none)) else (some true)
def tinderref05_Named.j2 : Nat → ByteArray → Int → Int → Bool → Option (Bool)
 | 0, _, _, _, _ => none
 | k + 1, x0, x3, x4, x36 => if x36 = true then (some false) else (tinderref05_Named.l1 k x0 x3 x4 0)
def tinderref05_Named.l1 : Nat → ByteArray → Int → Int → Int → Option (Bool)
 | 0, _, _, _, _ => none
 | k + 1, x0, x3, x4, x5 => if x5 < 6 then (if 0 ≤ x5 then (if x4 = (bt (⟨#[47, 92, 58, 91, 93, 64]⟩ : ByteArray) x5) then (some false) else (tinderref05_Named.l1 k x0 x3 x4 (wrap64 (x5 + 1)))) else (none)) else (tinderref05_Named.l0 k x0 (wrap64 (x3 + 1)))
end
def tinderref05_Named.f (k : Nat) (a0 : ByteArray) : Option (Bool) := if (a0.size : Int) < 1 then (tinderref05_Named.j0 k a0 true) else (tinderref05_Named.j0 k a0 (decide ((a0.size : Int) > 31)))
set_option maxHeartbeats 8000000 in
set_option maxRecDepth 100000 in
theorem tinderref05_Named.calls (k : Nat) (a0 : ByteArray) (r : Bool) (w : World) (h : tinderref05_Named.f k a0 = some r) :
  Calls Try.prog 82 #[.string a0] w fun e w' => e = .returned (.bool r) ∧ Drawn0 w w' := by
 have H : (if (a0.size : Int) < 1 then (tinderref05_Named.j0 k a0 true) else (tinderref05_Named.j0 k a0 (decide ((a0.size : Int) > 31)))) = some r := h
 clear h
 have HC2 := Aside0.mk H
 clear H
 go_enter Try.func82, Try.ntmps82
 go_upto_region 1 with (fail)
 go_cut [13] (fun v13 wc => ∃ (kq : Nat) (x13_1 : Bool), v13 = .bool x13_1 ∧ Aside0 (tinderref05_Named.j0 kq a0 x13_1 = some r) ∧ Aside0 (kq ≤ k) ∧ Drawn0 w wc)
 case first =>
  have H := HC2.out
  clear HC2
  by_cases c3 : (a0.size : Int) < 1
  ·rw [if_pos c3] at H
   have c3b0 : decide ((a0.size : Int) < 1) = true := decide_eq_true c3
   have c3b1 : decide (a0.size < 1) = true := decide_eq_true (by omega)
   clear c3
   (first | rw [c3b0] | (simp only [i64_w, i32_w]; rw [c3b0]) | skip)
   have H' := Aside0.mk H
   clear H
   go_wp2
   go_meet
   case rel => exact ⟨_, (true), (by first | rfl | (simp; done) | (simp [*]; done)), H', ⟨by first | omega | exact Nat.le_refl _⟩, by repeat (first | exact Drawn0.refl _ | apply Drawn0.step)⟩
  ·rw [if_neg c3] at H
   have c3b0 : decide ((a0.size : Int) < 1) = false := decide_eq_false c3
   have c3b1 : decide (a0.size < 1) = false := decide_eq_false (by omega)
   clear c3
   (first | rw [c3b0] | (simp only [i64_w, i32_w]; rw [c3b0]) | skip)
   have H' := Aside0.mk H
   clear H
   go_wp2
   go_meet
   case rel => exact ⟨_, (decide ((a0.size : Int) > 31)), (by first | rfl | (simp; done) | (simp [*]; done)), H', ⟨by first | omega | exact Nat.le_refl _⟩, by repeat (first | exact Drawn0.refl _ | apply Drawn0.step)⟩
 case rest =>
  clear HC2
  try clear p2
  try clear c3
  try clear c3b0
  try clear c3b1
  obtain ⟨kq, x13_1, rfl, HA, HJ1, ⟨mc1, rfl⟩⟩ := hcut
  cases kq with
  | zero => exact absurd HA.out (by simp [tinderref05_Named.j0])
  | succ kj1 =>
   have H := HA.out
   clear HA
   simp only [tinderref05_Named.j0] at H
   by_cases c4 : x13_1 = true
   ·subst c4
    have H1 : (some false) = some r := by rw [if_pos rfl] at H; exact H
    clear H
    have H := H1
    clear H1
    obtain rfl := Option.some.inj H
    go_wp2
    go_ret
    exact ⟨by first | rfl | (simp; done) | (simp [*]; done), by repeat (first | exact Drawn0.refl _ | apply Drawn0.step)⟩
   ·replace c4 := Bool.eq_false_iff.mpr c4
    subst c4
    have H1 : (tinderref05_Named.l0 kj1 a0 0) = some r := by rw [if_neg (show ¬ (false = true) by decide)] at H; exact H
    clear H
    have H := H1
    clear H1
    have H' := Aside0.mk H
    clear H
    go_wp2
    go_loopg [3] kj1 (fun kq v3 w' => ∃ (x3_2 : Int), v3 = .int .i64 x3_2 ∧ Aside0 (tinderref05_Named.l0 kq a0 x3_2 = some r) ∧ Aside0 (kq ≤ kj1) ∧ Drawn0 w w')
    case atStart => exact ⟨(0), (by first | rfl | (simp; done) | (simp [*]; done)), H', ⟨Nat.le_refl _⟩, by repeat (first | exact Drawn0.refl _ | apply Drawn0.step)⟩
    case round =>
     clear H'
     try clear c1
     try clear p2
     try clear c3
     try clear c3b0
     try clear c3b1
     try clear c4
     try clear p2
     obtain ⟨x3_2, rfl, HA, HK2, ⟨m2, rfl⟩⟩ := hrel
     cases gk with
     | zero => exact absurd HA.out (by simp [tinderref05_Named.l0])
     | succ k2 =>
      have H := HA.out
      clear HA
      simp only [tinderref05_Named.l0] at H
      by_cases c5 : x3_2 < (a0.size : Int)
      ·rw [if_pos c5] at H
       have c5b0 : decide (x3_2 < (a0.size : Int)) = true := decide_eq_true c5
       clear c5
       by_cases c6 : 0 ≤ x3_2
       ·rw [if_pos c6] at H
        have c6b0 : decide (0 ≤ x3_2) = true := decide_eq_true c6
        clear c6
        have HC8 := Aside0.mk H
        clear H
        have p7 : 0 ≤ (x3_2 : Int) := of_decide_eq_true (by first | (with_reducible assumption) | assumption)
        have q7 : x3_2 < (a0.size : Int) := of_decide_eq_true (by first | (with_reducible assumption) | assumption)
        have hx7 := bt_at a0 x3_2
        replace p7 := eq_true p7
        replace q7 := eq_true q7
        go_upto_region 7 with (fail)
        go_cut [36] (fun v36 wc => ∃ (kq : Nat) (x36_7 : Bool), v36 = .bool x36_7 ∧ Aside0 (tinderref05_Named.j2 kq a0 x3_2 (bt a0 x3_2) x36_7 = some r) ∧ Aside0 (kq ≤ k2) ∧ Drawn0 w wc)
        case first =>
         have H := HC8.out
         clear HC8
         by_cases c9 : (bt a0 x3_2) < 33
         ·rw [if_pos c9] at H
          have c9b0 : decide ((bt a0 x3_2) < 33) = true := decide_eq_true c9
          clear c9
          (first | rw [c9b0] | (simp only [i64_w, i32_w]; rw [c9b0]) | skip)
          have H' := Aside0.mk H
          clear H
          go_wp2
          go_meet
          case rel => exact ⟨_, (true), (by first | rfl | (simp; done) | (simp [*]; done)), H', ⟨by have := HJ1.out; have := HK2.out; first | omega | exact Nat.le_refl _⟩, by repeat (first | exact Drawn0.refl _ | apply Drawn0.step)⟩
         ·rw [if_neg c9] at H
          have c9b0 : decide ((bt a0 x3_2) < 33) = false := decide_eq_false c9
          clear c9
          (first | rw [c9b0] | (simp only [i64_w, i32_w]; rw [c9b0]) | skip)
          by_cases c10 : (bt a0 x3_2) > 126
          ·rw [if_pos c10] at H
           have c10b0 : decide (126 < (bt a0 x3_2)) = true := decide_eq_true c10
           clear c10
           have H' := Aside0.mk H
           clear H
           go_wp2
           go_meet
           case rel => exact ⟨_, (true), (by first | rfl | (simp; done) | (simp [*]; done)), H', ⟨by have := HJ1.out; have := HK2.out; first | omega | exact Nat.le_refl _⟩, by repeat (first | exact Drawn0.refl _ | apply Drawn0.step)⟩
          ·rw [if_neg c10] at H
           have c10b0 : decide (126 < (bt a0 x3_2)) = false := decide_eq_false c10
           clear c10
           by_cases c11 : (bt a0 x3_2) ≥ 65
           ·rw [if_pos c11] at H
            have c11b0 : decide (65 ≤ (bt a0 x3_2)) = true := decide_eq_true c11
            clear c11
            have H' := Aside0.mk H
            clear H
            go_wp2
            go_meet
            case rel => exact ⟨_, (decide ((bt a0 x3_2) ≤ 90)), (by first | rfl | (simp; done) | (simp [*]; done)), H', ⟨by have := HJ1.out; have := HK2.out; first | omega | exact Nat.le_refl _⟩, by repeat (first | exact Drawn0.refl _ | apply Drawn0.step)⟩
           ·rw [if_neg c11] at H
            have c11b0 : decide (65 ≤ (bt a0 x3_2)) = false := decide_eq_false c11
            clear c11
            have H' := Aside0.mk H
            clear H
            go_wp2
            go_meet
            case rel => exact ⟨_, (false), (by first | rfl | (simp; done) | (simp [*]; done)), H', ⟨by have := HJ1.out; have := HK2.out; first | omega | exact Nat.le_refl _⟩, by repeat (first | exact Drawn0.refl _ | apply Drawn0.step)⟩
        case rest =>
         clear HC8
         try clear c1
         try clear p2
         try clear c3
         try clear c3b0
         try clear c3b1
         try clear c4
         try clear c5
         try clear c5b0
         try clear c6
         try clear c6b0
         try clear p7
         try clear q7
         try clear hx7
         try clear c8
         try clear c9
         try clear c9b0
         try clear c10
         try clear c10b0
         try clear c11
         try clear c11b0
         try clear p2
         try clear p7
         try clear q7
         obtain ⟨kq, x36_7, rfl, HA, HJ7, ⟨mc7, rfl⟩⟩ := hcut
         cases kq with
         | zero => exact absurd HA.out (by simp [tinderref05_Named.j2])
         | succ kj7 =>
          have H := HA.out
          clear HA
          simp only [tinderref05_Named.j2] at H
          by_cases c12 : x36_7 = true
          ·subst c12
           have H1 : (some false) = some r := by rw [if_pos rfl] at H; exact H
           clear H
           have H := H1
           clear H1
           obtain rfl := Option.some.inj H
           go_wp2
           go_ret
           exact ⟨by first | rfl | (simp; done) | (simp [*]; done), by repeat (first | exact Drawn0.refl _ | apply Drawn0.step)⟩
          ·replace c12 := Bool.eq_false_iff.mpr c12
           subst c12
           have H1 : (tinderref05_Named.l1 kj7 a0 x3_2 (bt a0 x3_2) 0) = some r := by rw [if_neg (show ¬ (false = true) by decide)] at H; exact H
           clear H
           have H := H1
           clear H1
           have H' := Aside0.mk H
           clear H
           go_wp2
           go_loopg [5] kj7 (fun kq v5 w' => ∃ (x5_4 : Int), v5 = .int .i64 x5_4 ∧ Aside0 (tinderref05_Named.l1 kq a0 x3_2 (bt a0 x3_2) x5_4 = some r) ∧ Aside0 (kq ≤ kj7) ∧ Drawn0 w w')
           case atStart => exact ⟨(0), (by first | rfl | (simp; done) | (simp [*]; done)), H', ⟨Nat.le_refl _⟩, by repeat (first | exact Drawn0.refl _ | apply Drawn0.step)⟩
           case round =>
            clear H'
            try clear c1
            try clear p2
            try clear c3
            try clear c3b0
            try clear c3b1
            try clear c4
            try clear c5
            try clear c5b0
            try clear c6
            try clear c6b0
            try clear c7
            try clear p7
            try clear q7
            try clear hx7
            try clear c8
            try clear c9
            try clear c9b0
            try clear c10
            try clear c10b0
            try clear c11
            try clear c11b0
            try clear c12
            try clear p2
            try clear p7
            try clear q7
            obtain ⟨x5_4, rfl, HA, HK4, ⟨m4, rfl⟩⟩ := hrel
            cases gk with
            | zero => exact absurd HA.out (by simp [tinderref05_Named.l1])
            | succ k4 =>
             have H := HA.out
             clear HA
             simp only [tinderref05_Named.l1] at H
             by_cases c13 : x5_4 < 6
             ·rw [if_pos c13] at H
              have c13b0 : decide (x5_4 < 6) = true := decide_eq_true c13
              clear c13
              by_cases c14 : 0 ≤ x5_4
              ·rw [if_pos c14] at H
               have c14b0 : decide (0 ≤ x5_4) = true := decide_eq_true c14
               clear c14
               by_cases c16 : (bt a0 x3_2) = (bt (⟨#[47, 92, 58, 91, 93, 64]⟩ : ByteArray) x5_4)
               ·rw [if_pos c16] at H
                have c16b0 : ((bt a0 x3_2) == (bt (⟨#[47, 92, 58, 91, 93, 64]⟩ : ByteArray) x5_4)) = true := beq_iff_eq.mpr c16
                have c16b1 : ((bt a0 x3_2) != (bt (⟨#[47, 92, 58, 91, 93, 64]⟩ : ByteArray) x5_4)) = false := bne_eq_false_iff_eq.mpr c16
                clear c16
                obtain rfl := Option.some.inj H
                have p15 : 0 ≤ (x5_4 : Int) := of_decide_eq_true (by first | (with_reducible assumption) | assumption)
                have q15 : x5_4 < (6 : Int) := of_decide_eq_true (by first | (with_reducible assumption) | assumption)
                have hx15 := bt_at (⟨#[47, 92, 58, 91, 93, 64]⟩ : ByteArray) x5_4
                replace p15 := eq_true p15
                replace q15 := eq_true q15
                go_wp2
                go_ret
                exact ⟨by first | rfl | (simp; done) | (simp [*]; done), by repeat (first | exact Drawn0.refl _ | apply Drawn0.step)⟩
               ·rw [if_neg c16] at H
                have c16b0 : ((bt a0 x3_2) == (bt (⟨#[47, 92, 58, 91, 93, 64]⟩ : ByteArray) x5_4)) = false := beq_eq_false_iff_ne.mpr c16
                have c16b1 : ((bt a0 x3_2) != (bt (⟨#[47, 92, 58, 91, 93, 64]⟩ : ByteArray) x5_4)) = true := bne_iff_ne.mpr c16
                have H' := Aside0.mk H
                clear H
                have p15 : 0 ≤ (x5_4 : Int) := of_decide_eq_true (by first | (with_reducible assumption) | assumption)
                have q15 : x5_4 < (6 : Int) := of_decide_eq_true (by first | (with_reducible assumption) | assumption)
                have hx15 := bt_at (⟨#[47, 92, 58, 91, 93, 64]⟩ : ByteArray) x5_4
                replace p15 := eq_true p15
                replace q15 := eq_true q15
                go_wp2
                go_roundg k4
                case measure => have := HJ1.out; have := HK2.out; have := HJ7.out; have := HK4.out; omega
                case rel => exact ⟨(wrap64 (x5_4 + 1)), (by first | rfl | (simp; done) | (simp [*]; done)), H', ⟨by have := HJ1.out; have := HK2.out; have := HJ7.out; have := HK4.out; omega⟩, by repeat (first | exact Drawn0.refl _ | apply Drawn0.step)⟩
              ·rw [if_neg c14] at H
               exact absurd H (by simp)
             ·rw [if_neg c13] at H
              have c13b0 : decide (x5_4 < 6) = false := decide_eq_false c13
              clear c13
              have H' := Aside0.mk H
              clear H
              go_wp2
              go_roundg k4
              case measure => have := HJ1.out; have := HK2.out; have := HJ7.out; have := HK4.out; omega
              case rel => exact ⟨(wrap64 (x3_2 + 1)), (by first | rfl | (simp; done) | (simp [*]; done)), H', ⟨by have := HJ1.out; have := HK2.out; have := HJ7.out; have := HK4.out; omega⟩, by repeat (first | exact Drawn0.refl _ | apply Drawn0.step)⟩
       ·rw [if_neg c6] at H
        exact absurd H (by simp)
      ·rw [if_neg c5] at H
       have c5b0 : decide (x3_2 < (a0.size : Int)) = false := decide_eq_false c5
       clear c5
       obtain rfl := Option.some.inj H
       go_wp2
       go_ret
       exact ⟨by first | rfl | (simp; done) | (simp [*]; done), by repeat (first | exact Drawn0.refl _ | apply Drawn0.step)⟩

end Go.Proofs.Ytfpkakedlapmkaa.Q
end
section
set_option linter.unusedSimpArgs false
set_option linter.unusedVariables false
namespace Go.Proofs.Ytfpkakedlapmkaa.Q
open Go.RowKit Go.Proofs.YtfpkakedlapmkaaW.PrintWords Go.Proofs.YtfpkakedlapmkaaW.PrintLast
theorem bytes_at (s : ByteArray) (i : Int) (h0 : 0 ≤ i) (h1 : i < s.size) : (bytesOf s).drop i.toNat = bt s i :: (bytesOf s).drop (i + 1).toNat := by
 have hl : i.toNat < (bytesOf s).length := by rw [bytesOf_length]; omega
 rw [List.drop_eq_getElem_cons hl, show (i + 1).toNat = i.toNat + 1 by omega, ← rd_bytesOf]
 simp [rd, List.getD_eq_getElem?_getD, List.getElem?_eq_getElem hl]
theorem empty_iff (s : ByteArray) : s.toList = ([] : List UInt8) ↔ s.size = 0 := by
 rw [ByteArray.toList_eq, ← List.length_eq_zero_iff, data_length]
def badB (c : Int) : Bool := decide (c = 47) || decide (c = 92) || decide (c = 58) || decide (c = 91) || decide (c = 93) || decide (c = 64)
def okC (c : Int) : Bool := decide (33 ≤ c) && decide (c ≤ 126) && !(decide (65 ≤ c) && decide (c ≤ 90)) && !badB c
def namedF (s : ByteArray) : Bool := decide (1 ≤ s.size) && decide (s.size ≤ 31) && (bytesOf s).all okC
theorem bad_all : ((List.range 256).all fun (c : Nat) => decide (0 ≤ Lib.indexByte (⟨#[47, 92, 58, 91, 93, 64]⟩ : ByteArray).data.toList ((c : Int).toNat.toUInt8)) == badB (c : Int)) = true := by kernel_rfl
theorem bad_idx (c : Int) (h : 0 ≤ c ∧ c ≤ 255) : decide (0 ≤ Lib.indexByte (⟨#[47, 92, 58, 91, 93, 64]⟩ : ByteArray).data.toList c.toNat.toUInt8) = badB c := by
 have h1 := List.all_eq_true.1 bad_all c.toNat (List.mem_range.2 (by omega))
 rw [beq_iff_eq, show ((c.toNat : Nat) : Int) = c by omega] at h1
 exact h1
theorem named_go (s : ByteArray) (hs : s.size ≤ 31) : ∀ (d k : Nat) (i : Int), 0 ≤ i → i + d = s.size → 2 * d + 2 ≤ k → prop_Named.l0 k s s.size i = some (((bytesOf s).drop i.toNat).all okC)
 | 0, k, i, h0, h1, hk => by
  obtain ⟨k, rfl⟩ : ∃ m, k = m + 1 := ⟨k - 1, by omega⟩
  rw [prop_Named.l0, if_neg (by omega), List.drop_eq_nil_of_le (by rw [bytesOf_length]; omega)]
  rfl
 | d + 1, k, i, h0, h1, hk => by
  obtain ⟨k, rfl⟩ : ∃ m, k = m + 1 + 1 := ⟨k - 2, by omega⟩
  have hb := bt_range s i
  have ih := named_go s hs d k (i + 1) (by omega) (by omega) (by omega)
  have hw : wrap64 (i + 1) = i + 1 := by unfold wrap64; omega
  rw [prop_Named.l0, if_pos (by omega), if_pos h0, if_pos (by omega), bytes_at s i h0 (by omega), List.all_cons]
  have ht : prop_Named.j2 (k + 1) s (bt s i) s.size i true = some false := by rw [prop_Named.j2, if_pos rfl]
  have hf : prop_Named.j2 (k + 1) s (bt s i) s.size i false = some (!badB (bt s i) && ((bytesOf s).drop (i + 1).toNat).all okC) := by
   rw [prop_Named.j2, if_neg (by decide), strings_IndexByte.f, Option.bind_some, hw, ih, ← bad_idx (bt s i) hb]
   by_cases hx : 0 ≤ Lib.indexByte (⟨#[47, 92, 58, 91, 93, 64]⟩ : ByteArray).data.toList (bt s i).toNat.toUInt8
   ·rw [if_pos hx]; simp [hx]
   ·rw [if_neg hx]; simp [hx]
  rw [show okC (bt s i) = (decide (33 ≤ bt s i) && decide (bt s i ≤ 126) && !(decide (65 ≤ bt s i) && decide (bt s i ≤ 90)) && !badB (bt s i)) from rfl]
  by_cases h2 : bt s i ≤ 32
  ·rw [if_pos h2, ht]
   simp [show ¬ 33 ≤ bt s i by omega]
  ·rw [if_neg h2]
   by_cases h3 : bt s i > 126
   ·rw [if_pos h3, ht]
    simp [show ¬ bt s i ≤ 126 by omega]
   ·rw [if_neg h3]
    by_cases h4 : bt s i ≥ 65
    ·rw [if_pos h4]
     by_cases h5 : bt s i ≤ 90
     ·rw [decide_eq_true h5, ht]
      simp [h5, show 65 ≤ bt s i by omega]
     ·rw [decide_eq_false h5, hf]
      simp [h5, show 33 ≤ bt s i by omega, show bt s i ≤ 126 by omega]
    ·rw [if_neg h4, hf]
     simp [show ¬ 65 ≤ bt s i by omega, show 33 ≤ bt s i by omega, show bt s i ≤ 126 by omega]
theorem named_eq (k : Nat) (hk : 100 ≤ k) (s : ByteArray) : prop_Named.f k s = some (namedF s) := by
 obtain ⟨k, rfl⟩ : ∃ m, k = m + 1 := ⟨k - 1, by omega⟩
 unfold prop_Named.f namedF
 by_cases h0 : s.size = 0
 ·rw [if_pos ((empty_iff s).2 h0), prop_Named.j0, if_pos rfl]
  simp [h0]
 ·rw [if_neg (fun h => h0 ((empty_iff s).1 h)), prop_Named.j0]
  by_cases h1 : (s.size : Int) > 31
  ·rw [decide_eq_true h1, if_pos rfl]
   simp [show ¬ s.size ≤ 31 by omega]
  ·rw [decide_eq_false h1, if_neg (by decide), named_go s (by omega) s.size k 0 (Int.le_refl 0) (by omega) (by omega)]
   simp [show 1 ≤ s.size by omega, show s.size ≤ 31 by omega]
theorem bad_bt : (bt (⟨#[47, 92, 58, 91, 93, 64]⟩ : ByteArray) 0 = 47 ∧ bt (⟨#[47, 92, 58, 91, 93, 64]⟩ : ByteArray) 1 = 92 ∧ bt (⟨#[47, 92, 58, 91, 93, 64]⟩ : ByteArray) 2 = 58) ∧ (bt (⟨#[47, 92, 58, 91, 93, 64]⟩ : ByteArray) 3 = 91 ∧ bt (⟨#[47, 92, 58, 91, 93, 64]⟩ : ByteArray) 4 = 93 ∧ bt (⟨#[47, 92, 58, 91, 93, 64]⟩ : ByteArray) 5 = 64) := ⟨⟨by kernel_rfl, by kernel_rfl, by kernel_rfl⟩, by kernel_rfl, by kernel_rfl, by kernel_rfl⟩
theorem refbad_go (k : Nat) (s : ByteArray) (i c : Int) : tinderref05_Named.l1 (k + 7) s i c 0 = if badB c = true then some false else tinderref05_Named.l0 k s (wrap64 (i + 1)) := by
 obtain ⟨⟨b0, b1, b2⟩, b3, b4, b5⟩ := bad_bt
 have w1 : wrap64 ((0 : Int) + 1) = 1 := by unfold wrap64; omega
 have w2 : wrap64 ((1 : Int) + 1) = 2 := by unfold wrap64; omega
 have w3 : wrap64 ((2 : Int) + 1) = 3 := by unfold wrap64; omega
 have w4 : wrap64 ((3 : Int) + 1) = 4 := by unfold wrap64; omega
 have w5 : wrap64 ((4 : Int) + 1) = 5 := by unfold wrap64; omega
 have w6 : wrap64 ((5 : Int) + 1) = 6 := by unfold wrap64; omega
 unfold badB
 rw [tinderref05_Named.l1, if_pos (by decide), if_pos (by decide), b0]
 by_cases h0 : c = 47
 ·rw [if_pos h0]; simp [h0]
 ·rw [if_neg h0, w1, tinderref05_Named.l1, if_pos (by decide), if_pos (by decide), b1]
  by_cases h1 : c = 92
  ·rw [if_pos h1]; simp [h1]
  ·rw [if_neg h1, w2, tinderref05_Named.l1, if_pos (by decide), if_pos (by decide), b2]
   by_cases h2 : c = 58
   ·rw [if_pos h2]; simp [h2]
   ·rw [if_neg h2, w3, tinderref05_Named.l1, if_pos (by decide), if_pos (by decide), b3]
    by_cases h3 : c = 91
    ·rw [if_pos h3]; simp [h3]
    ·rw [if_neg h3, w4, tinderref05_Named.l1, if_pos (by decide), if_pos (by decide), b4]
     by_cases h4 : c = 93
     ·rw [if_pos h4]; simp [h4]
     ·rw [if_neg h4, w5, tinderref05_Named.l1, if_pos (by decide), if_pos (by decide), b5]
      by_cases h5 : c = 64
      ·rw [if_pos h5]; simp [h5]
      ·rw [if_neg h5, w6, tinderref05_Named.l1, if_neg (by decide)]
       simp [h0, h1, h2, h3, h4, h5]
theorem refnamed_go (s : ByteArray) (hs : s.size ≤ 31) : ∀ (d k : Nat) (i : Int), 0 ≤ i → i + d = s.size → 10 * d + 2 ≤ k → tinderref05_Named.l0 k s i = some (((bytesOf s).drop i.toNat).all okC)
 | 0, k, i, h0, h1, hk => by
  obtain ⟨k, rfl⟩ : ∃ m, k = m + 1 := ⟨k - 1, by omega⟩
  rw [tinderref05_Named.l0, if_neg (by omega), List.drop_eq_nil_of_le (by rw [bytesOf_length]; omega)]
  rfl
 | d + 1, k, i, h0, h1, hk => by
  obtain ⟨k, rfl⟩ : ∃ m, k = m + 7 + 1 + 1 := ⟨k - 9, by omega⟩
  have hb := bt_range s i
  have ih := refnamed_go s hs d k (i + 1) (by omega) (by omega) (by omega)
  have hw : wrap64 (i + 1) = i + 1 := by unfold wrap64; omega
  rw [tinderref05_Named.l0, if_pos (by omega), if_pos h0, bytes_at s i h0 (by omega), List.all_cons]
  have ht : tinderref05_Named.j2 (k + 7 + 1) s i (bt s i) true = some false := by rw [tinderref05_Named.j2, if_pos rfl]
  have hf : tinderref05_Named.j2 (k + 7 + 1) s i (bt s i) false = some (!badB (bt s i) && ((bytesOf s).drop (i + 1).toNat).all okC) := by
   rw [tinderref05_Named.j2, if_neg (by decide), refbad_go, hw, ih]
   cases badB (bt s i) <;> simp
  rw [show okC (bt s i) = (decide (33 ≤ bt s i) && decide (bt s i ≤ 126) && !(decide (65 ≤ bt s i) && decide (bt s i ≤ 90)) && !badB (bt s i)) from rfl]
  by_cases h2 : bt s i < 33
  ·rw [if_pos h2, ht]
   simp [show ¬ 33 ≤ bt s i by omega]
  ·rw [if_neg h2]
   by_cases h3 : bt s i > 126
   ·rw [if_pos h3, ht]
    simp [show ¬ bt s i ≤ 126 by omega]
   ·rw [if_neg h3]
    by_cases h4 : bt s i ≥ 65
    ·rw [if_pos h4]
     by_cases h5 : bt s i ≤ 90
     ·rw [decide_eq_true h5, ht]
      simp [h5, show 65 ≤ bt s i by omega]
     ·rw [decide_eq_false h5, hf]
      simp [h5, show 33 ≤ bt s i by omega, show bt s i ≤ 126 by omega]
    ·rw [if_neg h4, hf]
     simp [show ¬ 65 ≤ bt s i by omega, show 33 ≤ bt s i by omega, show bt s i ≤ 126 by omega]
theorem refnamed_eq (k : Nat) (hk : 400 ≤ k) (s : ByteArray) : tinderref05_Named.f k s = some (namedF s) := by
 obtain ⟨k, rfl⟩ : ∃ m, k = m + 1 := ⟨k - 1, by omega⟩
 unfold tinderref05_Named.f namedF
 by_cases h0 : s.size = 0
 ·rw [if_pos (by omega), tinderref05_Named.j0, if_pos rfl]
  simp [h0]
 ·rw [if_neg (by omega), tinderref05_Named.j0]
  by_cases h1 : (s.size : Int) > 31
  ·rw [decide_eq_true h1, if_pos rfl]
   simp [show ¬ s.size ≤ 31 by omega]
  ·rw [decide_eq_false h1, if_neg (by decide), refnamed_go s (by omega) s.size k 0 (Int.le_refl 0) (by omega) (by omega)]
   simp [show 1 ≤ s.size by omega, show s.size ≤ 31 by omega]
end Go.Proofs.Ytfpkakedlapmkaa.Q
end
section
set_option linter.unusedSimpArgs false
set_option linter.unusedVariables false
namespace Go.Proofs.Ytfpkakedlapmkaa.Q
open Go.RowKit Go.Proofs.YtfpkakedlapmkaaW.PrintWords Go.Proofs.YtfpkakedlapmkaaW.PrintLast Go.Proofs.YtfpkakedlapmkaaW.PrintMore
attribute [local go_sem] max2_int min2_int max_two min_two max_three min_three max_four min_four
def pOk (l : List S106) (i : Nat) : Bool := namedF (l.getD i z106).f0 && (decide ((l.getD i z106).f1.length ≤ 256) && !(l.take i).any (isP (l.getD i z106).f0))
def propsF (l : List S106) : Bool := decide (l.length ≤ 16) && (List.range l.length).all (pOk l)
theorem info106s : (Try.prog.info? 106).map (·.size) = some 2 := by kernel_rfl
theorem range_all (n : Nat) (p : Nat → Bool) (h : ∀ j, j < n → p j = true) : (List.range n).all p = true := List.all_eq_true.2 (fun j hj => h j (List.mem_range.1 hj))
theorem range_not (n : Nat) (p : Nat → Bool) (j : Nat) (hj : j < n) (h : p j = false) : (List.range n).all p = false := by
 rw [List.all_eq_false]
 exact ⟨j, List.mem_range.2 hj, by rw [h]; exact Bool.false_ne_true⟩
/-- A box of two cells, and what lies below. -/
def Held2 (g : Nat) (a b : Value) (w w' : World) : Prop := (w'.cell? ⟨g, 0, none⟩ = some a ∧ w'.cell? ⟨g, 1, none⟩ = some b) ∧ Below w.heap.size w w'
theorem held2_start (wr w : World) (a b : Value) (t : Nat) (hb : Below w.heap.size w wr) : (((wr.alloc (.cells #[a, b] t)).cell? ⟨wr.heap.size, 0, none⟩ = some a ∧ (wr.alloc (.cells #[a, b] t)).cell? ⟨wr.heap.size, 1, none⟩ = some b) ∧ Below w.heap.size w (wr.alloc (.cells #[a, b] t))) := by
 have hh : (wr.alloc (.cells #[a, b] t)).heap[wr.heap.size]? = some (.cells #[a, b] t (0, 0)) := heap_alloc_new wr _
 exact ⟨⟨blk_cell hh 0, blk_cell hh 1⟩, below_alloc hb _⟩
theorem held2_drew (wr w : World) (a b : Value) (t : Nat) (hb : Below w.heap.size w wr) : (((wr.alloc (.cells #[a, b] t)).drew.cell? ⟨wr.heap.size, 0, none⟩ = some a ∧ (wr.alloc (.cells #[a, b] t)).drew.cell? ⟨wr.heap.size, 1, none⟩ = some b) ∧ Below w.heap.size w (wr.alloc (.cells #[a, b] t)).drew) :=
 ⟨(held2_start wr w a b t hb).1, below_drew1 (held2_start wr w a b t hb).2⟩
theorem held2_step {g : Nat} {a b : Value} {w W w2 : World} (h : (W.cell? ⟨g, 0, none⟩ = some a ∧ W.cell? ⟨g, 1, none⟩ = some b) ∧ Below w.heap.size w W) (hb : Below W.heap.size W w2) : (w2.cell? ⟨g, 0, none⟩ = some a ∧ w2.cell? ⟨g, 1, none⟩ = some b) ∧ Below w.heap.size w w2 :=
 ⟨⟨(hb.cell (World.block_lt_of_cell? _ _ h.1.1)).trans h.1.1, (hb.cell (World.block_lt_of_cell? _ _ h.1.2)).trans h.1.2⟩, below_step h.2 hb⟩
set_option maxHeartbeats 8000000 in
set_option maxRecDepth 100000 in
theorem propsFormed_calls (A : Option Addr) (c : Nat) (l : List S106) (w : World) (hC : Kd.C k106 w A l.length l) (hc : l.length ≤ c) :
  Calls Try.prog 72 #[.slice A l.length c] w fun e w' => e = .returned (.bool (propsF l)) ∧ Below w.heap.size w w' := by
 have hu106 := Try.underlying106
 have hm := Kd.C_max hC
 by_cases h16 : l.length ≤ 16
 ·have d1 : decide ((16 : Int) < (l.length : Int)) = false := decide_eq_false (by omega)
  have HPF := Aside0.mk (show propsF l = (List.range l.length).all (pOk l) by unfold propsF; rw [decide_eq_true h16, Bool.true_and])
  have HC := Aside0.mk hC
  have HCC := Aside0.mk hc
  have H16 := Aside0.mk h16
  have HNM := Aside0.mk (fun (s : ByteArray) (W : World) => prop_Named.calls 400 s (namedF s) W (named_eq 400 (by decide) s))
  have HB0 := Aside0.mk (Below.refl w.heap.size w)
  have mixed : Try.prog.follows Departure.mixedOrders = true := by kernel_rfl
  clear hC hc hm h16
  go_enter Try.func72, Try.ntmps72
  go_wp2
  go_loopg [10] l.length (fun kq v8 w' => ∃ i : Int, v8 = .int .i64 i ∧ Aside0 (0 ≤ i ∧ i + kq = l.length) ∧ Aside0 (∀ j : Nat, j < i.toNat → pOk l j = true) ∧ Aside0 (Below w.heap.size w w'))
  case atStart => exact ⟨0, rfl, ⟨by omega, by omega⟩, ⟨fun j hj => absurd hj (by simp)⟩, ⟨Below.refl _ _⟩⟩
  case round =>
   obtain ⟨i, rfl, HI, HZ, HB⟩ := hrel
   cases gk with
   | zero =>
    have hlt : decide (i < (l.length : Int)) = false := decide_eq_false (by have := HI.out; omega)
    go_wp2
    go_ret
    have hz := HZ.out
    have hi := HI.out
    exact ⟨by rw [HPF.out, range_all _ _ (fun j hj => hz j (by omega))]; rfl, HB.out⟩
   | succ k1 =>
    have hi := HI.out
    have hlt : decide (i < (l.length : Int)) = true := decide_eq_true (by omega)
    have p1 : (0 ≤ i) = True := eq_true (by omega)
    have p2 : (i < (l.length : Int)) = True := eq_true (by omega)
    obtain ⟨ad, A1, c1, eA, hx0, hx1, hl1, hg1⟩ := at_T106 (Kd.C_below HC.out HB.out) i (by omega) (by omega)
    cases eA
    have hwr : IntKind.i64.wrap (i + 1) = i + 1 := (i64_w _).trans (by unfold wrap64; have := H16.out; omega)
    have hwr2 : wrap64 (i + 1) = i + 1 := by unfold wrap64; have := H16.out; omega
    have hcut := run_cut_hi (P := Try.prog) Try.underlying89 info106s (some ad) l.length c i (by omega) (by have := HCC.out; omega)
    have HTK := Aside0.mk (fun (W : World) (hb : Below w.heap.size w W) => (Kd.C_take (Kd.C_below HC.out hb) (by omega) : Kd.C k106 W (some ad) (l.take i.toNat).length (l.take i.toNat)))
    have HTL := Aside0.mk (show (l.take i.toNat).length = i.toNat by rw [List.length_take]; omega)
    have HPO := Aside0.mk (show pOk l i.toNat = (namedF (rd_T106 l i).f0 && (decide ((rd_T106 l i).f1.length ≤ 256) && !(l.take i.toNat).any (isP (rd_T106 l i).f0))) from rfl)
    generalize rd_T106 l i = x at *
    rw [← HTL.out] at hcut
    have HHI := Aside0.mk hi
    have HCN := Aside0.mk (fun (gb : Nat) (W : World) (hb : Below w.heap.size w W) (hh : W.heap[gb]? = some (.cells #[.string x.f0] 9 (0, 0))) => containsProp_calls x.f0 gb (some ad) c (l.take i.toNat) W (HTK.out W hb) hh)
    generalize l.take i.toNat = LT at *
    clear hi hl1 hg1
    have HNA := Aside0.mk (fun W : World => HNM.out x.f0 W)
    cases b1 : namedF x.f0
    ·rw [b1] at HPO HNA
     go_wp2
     refine start_ (n := 19) (S := fun w' => (w'.cell? ⟨wr.heap.size, 0, none⟩ = some (.string x.f0) ∧ w'.cell? ⟨wr.heap.size, 1, none⟩ = some (.slice A1 x.f1.length c1)) ∧ Below w.heap.size w w') (ds := []) #[false, false, false, false, false, false, false, false, false, false, false, false, false, false, false, false, false, false, false] (by kernel_rfl) rfl rfl (held2_drew wr w _ _ _ HB.out) (fun hHeld => ?_)
     refine pure_ (i := 0) (N := some 15) (v := ?_) (a' := ?_) #[true, false, false, false, false, false, false, false, false, false, false, false, false, false, false, false, false, false, false] rfl rfl (by kernel_rfl) (fun _ _ _ h => h) (Or.inl ⟨by rfl, ?_⟩) ?_ ?_
     rotate_left
     ·intro w'
      go_simp
      with_reducible rfl
     rotate_left
     ·simp only [Act.put, List.setIfInBounds_toArray, List.set_cons_zero, List.set_cons_succ]
      rfl
     refine take_ (i := 1) (N := some 16) (v := (.string x.f0)) (a' := ?_) #[true, true, false, false, false, false, false, false, false, false, false, false, false, false, false, false, false, false, false] rfl rfl (by kernel_rfl) (fun _ _ _ h => h) (Or.inl ⟨by rfl, ?_⟩) hHeld ?_ ?_
     rotate_left
     rotate_left
     ·simp only [Act.put, List.setIfInBounds_toArray, List.set_cons_zero, List.set_cons_succ]
      rfl
     rotate_left
     ·rintro w' ⟨⟨s0, s1⟩, s2⟩
      go_simp
     refine one_ (i := 2) (N := some 17) #[true, true, true, false, false, false, false, false, false, false, false, false, false, false, false, false, false, false, false] rfl rfl (by kernel_rfl) (by decide) (fun K hK => ?_)
     refine goes_ Try.func73 (by kernel_rfl) rfl #[.string x.f0] (by rfl) rfl rfl (by first | rfl | (simp only [List.map_toArray, List.map_cons, List.map_nil]; rfl)) ?_
     refine (HNA.out _).mono ?_
     rintro e w2 ⟨rfl, hb⟩
     refine ⟨_, rfl, hK.out _ _ (held2_step hHeld hb) (fun hHeld => ?_)⟩
     clear hb
     clear hK K
     simp only [Act.put, List.setIfInBounds_toArray, List.set_cons_zero, List.set_cons_succ]
     refine pure_ (i := 3) (N := some 18) (v := ?_) (a' := ?_) #[true, true, true, true, false, false, false, false, false, false, false, false, false, false, false, false, false, false, false] rfl rfl (by kernel_rfl) (fun _ _ _ h => h) (Or.inl ⟨by rfl, ?_⟩) ?_ ?_
     rotate_left
     ·intro w'
      go_simp
      with_reducible rfl
     rotate_left
     ·simp only [Act.put, List.setIfInBounds_toArray, List.set_cons_zero, List.set_cons_succ]
      rfl
     refine pure_ (i := 4) (N := some 19) (v := ?_) (a' := ?_) #[true, true, true, true, true, false, false, false, false, false, false, false, false, false, false, false, false, false, false] rfl rfl (by kernel_rfl) (fun _ _ _ h => h) (Or.inl ⟨by rfl, ?_⟩) ?_ ?_
     rotate_left
     ·intro w'
      go_simp
      with_reducible rfl
     rotate_left
     ·simp only [Act.put, List.setIfInBounds_toArray, List.set_cons_zero, List.set_cons_succ]
      rfl
     refine pure_ (i := 5) (N := some 20) (v := undef) (a' := ?_) #[true, true, true, true, true, true, false, false, false, false, false, false, false, false, false, false, false, false, false] rfl rfl (by kernel_rfl) (fun _ _ _ h => h) (Or.inr ⟨by rfl, rfl⟩) ?_ ?_
     rotate_left
     ·simp only [Act.put, List.setIfInBounds_toArray, List.set_cons_zero, List.set_cons_succ]
      rfl
     refine pure_ (i := 6) (N := some 21) (v := undef) (a' := ?_) #[true, true, true, true, true, true, true, false, false, false, false, false, false, false, false, false, false, false, false] rfl rfl (by kernel_rfl) (fun _ _ _ h => h) (Or.inr ⟨by rfl, rfl⟩) ?_ ?_
     rotate_left
     ·simp only [Act.put, List.setIfInBounds_toArray, List.set_cons_zero, List.set_cons_succ]
      rfl
     refine pure_ (i := 7) (N := some 22) (v := undef) (a' := ?_) #[true, true, true, true, true, true, true, true, false, false, false, false, false, false, false, false, false, false, false] rfl rfl (by kernel_rfl) (fun _ _ _ h => h) (Or.inr ⟨by rfl, rfl⟩) ?_ ?_
     rotate_left
     ·simp only [Act.put, List.setIfInBounds_toArray, List.set_cons_zero, List.set_cons_succ]
      rfl
     refine pure_ (i := 8) (N := some 23) (v := undef) (a' := ?_) #[true, true, true, true, true, true, true, true, true, false, false, false, false, false, false, false, false, false, false] rfl rfl (by kernel_rfl) (fun _ _ _ h => h) (Or.inr ⟨by rfl, rfl⟩) ?_ ?_
     rotate_left
     ·simp only [Act.put, List.setIfInBounds_toArray, List.set_cons_zero, List.set_cons_succ]
      rfl
     refine pure_ (i := 9) (N := some 24) (v := ?_) (a' := ?_) #[true, true, true, true, true, true, true, true, true, true, false, false, false, false, false, false, false, false, false] rfl rfl (by kernel_rfl) (fun _ _ _ h => h) (Or.inl ⟨by rfl, ?_⟩) ?_ ?_
     rotate_left
     ·intro w'
      go_simp
      with_reducible rfl
     rotate_left
     ·simp only [Act.put, List.setIfInBounds_toArray, List.set_cons_zero, List.set_cons_succ]
      rfl
     refine pure_ (i := 10) (N := some 25) (v := ?_) (a' := ?_) #[true, true, true, true, true, true, true, true, true, true, true, false, false, false, false, false, false, false, false] rfl rfl (by kernel_rfl) (fun _ _ _ h => h) (Or.inl ⟨by rfl, ?_⟩) ?_ ?_
     rotate_left
     ·intro w'
      go_simp
      with_reducible rfl
     rotate_left
     ·simp only [Act.put, List.setIfInBounds_toArray, List.set_cons_zero, List.set_cons_succ]
      rfl
     refine pure_ (i := 11) (N := some 26) (v := undef) (a' := ?_) #[true, true, true, true, true, true, true, true, true, true, true, true, false, false, false, false, false, false, false] rfl rfl (by kernel_rfl) (fun _ _ _ h => h) (Or.inr ⟨by rfl, rfl⟩) ?_ ?_
     rotate_left
     ·simp only [Act.put, List.setIfInBounds_toArray, List.set_cons_zero, List.set_cons_succ]
      rfl
     refine pure_ (i := 12) (N := some 27) (v := undef) (a' := ?_) #[true, true, true, true, true, true, true, true, true, true, true, true, true, false, false, false, false, false, false] rfl rfl (by kernel_rfl) (fun _ _ _ h => h) (Or.inr ⟨by rfl, rfl⟩) ?_ ?_
     rotate_left
     ·simp only [Act.put, List.setIfInBounds_toArray, List.set_cons_zero, List.set_cons_succ]
      rfl
     refine pure_ (i := 13) (N := some 28) (v := undef) (a' := ?_) #[true, true, true, true, true, true, true, true, true, true, true, true, true, true, false, false, false, false, false] rfl rfl (by kernel_rfl) (fun _ _ _ h => h) (Or.inr ⟨by rfl, rfl⟩) ?_ ?_
     rotate_left
     ·simp only [Act.put, List.setIfInBounds_toArray, List.set_cons_zero, List.set_cons_succ]
      rfl
     refine pure_ (i := 14) (N := some 29) (v := undef) (a' := ?_) #[true, true, true, true, true, true, true, true, true, true, true, true, true, true, true, false, false, false, false] rfl rfl (by kernel_rfl) (fun _ _ _ h => h) (Or.inr ⟨by rfl, rfl⟩) ?_ ?_
     rotate_left
     ·simp only [Act.put, List.setIfInBounds_toArray, List.set_cons_zero, List.set_cons_succ]
      rfl
     refine pure_ (i := 15) (N := some 30) (v := undef) (a' := ?_) #[true, true, true, true, true, true, true, true, true, true, true, true, true, true, true, true, false, false, false] rfl rfl (by kernel_rfl) (fun _ _ _ h => h) (Or.inr ⟨by rfl, rfl⟩) ?_ ?_
     rotate_left
     ·simp only [Act.put, List.setIfInBounds_toArray, List.set_cons_zero, List.set_cons_succ]
      rfl
     refine pure_ (i := 16) (N := some 31) (v := undef) (a' := ?_) #[true, true, true, true, true, true, true, true, true, true, true, true, true, true, true, true, true, false, false] rfl rfl (by kernel_rfl) (fun _ _ _ h => h) (Or.inr ⟨by rfl, rfl⟩) ?_ ?_
     rotate_left
     ·simp only [Act.put, List.setIfInBounds_toArray, List.set_cons_zero, List.set_cons_succ]
      rfl
     refine pure_ (i := 17) (N := some 32) (v := undef) (a' := ?_) #[true, true, true, true, true, true, true, true, true, true, true, true, true, true, true, true, true, true, false] rfl rfl (by kernel_rfl) (fun _ _ _ h => h) (Or.inr ⟨by rfl, rfl⟩) ?_ ?_
     rotate_left
     ·simp only [Act.put, List.setIfInBounds_toArray, List.set_cons_zero, List.set_cons_succ]
      rfl
     refine pure_ (i := 18) (N := some 33) (v := ?_) (a' := ?_) #[true, true, true, true, true, true, true, true, true, true, true, true, true, true, true, true, true, true, true] rfl rfl (by kernel_rfl) (fun _ _ _ h => h) (Or.inl ⟨by rfl, ?_⟩) ?_ ?_
     rotate_left
     ·intro w'
      go_simp
      with_reducible rfl
     rotate_left
     ·simp only [Act.put, List.setIfInBounds_toArray, List.set_cons_zero, List.set_cons_succ]
      rfl
     refine done_ (n := 0) (by kernel_rfl) ?_
     go_wp2
     go_ret
     have hi := HHI.out
     exact ⟨by rw [HPF.out, range_not _ _ i.toNat (by omega) (by rw [HPO.out]; rfl)]; rfl, hHeld.2⟩
    ·rw [b1] at HPO HNA
     cases b2 : decide (x.f1.length ≤ 256)
     ·rw [b2] at HPO
      have d2 : decide ((256 : Int) < (x.f1.length : Int)) = true := decide_eq_true (by have := of_decide_eq_false b2; omega)
      clear b1 b2
      go_wp2
      refine start_ (n := 19) (S := fun w' => (w'.cell? ⟨wr.heap.size, 0, none⟩ = some (.string x.f0) ∧ w'.cell? ⟨wr.heap.size, 1, none⟩ = some (.slice A1 x.f1.length c1)) ∧ Below w.heap.size w w') (ds := []) #[false, false, false, false, false, false, false, false, false, false, false, false, false, false, false, false, false, false, false] (by kernel_rfl) rfl rfl (held2_drew wr w _ _ _ HB.out) (fun hHeld => ?_)
      refine pure_ (i := 0) (N := some 15) (v := ?_) (a' := ?_) #[true, false, false, false, false, false, false, false, false, false, false, false, false, false, false, false, false, false, false] rfl rfl (by kernel_rfl) (fun _ _ _ h => h) (Or.inl ⟨by rfl, ?_⟩) ?_ ?_
      rotate_left
      ·intro w'
       go_simp
       with_reducible rfl
      rotate_left
      ·simp only [Act.put, List.setIfInBounds_toArray, List.set_cons_zero, List.set_cons_succ]
       rfl
      refine take_ (i := 1) (N := some 16) (v := (.string x.f0)) (a' := ?_) #[true, true, false, false, false, false, false, false, false, false, false, false, false, false, false, false, false, false, false] rfl rfl (by kernel_rfl) (fun _ _ _ h => h) (Or.inl ⟨by rfl, ?_⟩) hHeld ?_ ?_
      rotate_left
      rotate_left
      ·simp only [Act.put, List.setIfInBounds_toArray, List.set_cons_zero, List.set_cons_succ]
       rfl
      rotate_left
      ·rintro w' ⟨⟨s0, s1⟩, s2⟩
       go_simp
      refine one_ (i := 2) (N := some 17) #[true, true, true, false, false, false, false, false, false, false, false, false, false, false, false, false, false, false, false] rfl rfl (by kernel_rfl) (by decide) (fun K hK => ?_)
      refine goes_ Try.func73 (by kernel_rfl) rfl #[.string x.f0] (by rfl) rfl rfl (by first | rfl | (simp only [List.map_toArray, List.map_cons, List.map_nil]; rfl)) ?_
      refine (HNA.out _).mono ?_
      rintro e w2 ⟨rfl, hb⟩
      refine ⟨_, rfl, hK.out _ _ (held2_step hHeld hb) (fun hHeld => ?_)⟩
      clear hb
      clear hK K
      simp only [Act.put, List.setIfInBounds_toArray, List.set_cons_zero, List.set_cons_succ]
      refine pure_ (i := 3) (N := some 18) (v := ?_) (a' := ?_) #[true, true, true, true, false, false, false, false, false, false, false, false, false, false, false, false, false, false, false] rfl rfl (by kernel_rfl) (fun _ _ _ h => h) (Or.inl ⟨by rfl, ?_⟩) ?_ ?_
      rotate_left
      ·intro w'
       go_simp
       with_reducible rfl
      rotate_left
      ·simp only [Act.put, List.setIfInBounds_toArray, List.set_cons_zero, List.set_cons_succ]
       rfl
      refine pure_ (i := 4) (N := some 19) (v := ?_) (a' := ?_) #[true, true, true, true, true, false, false, false, false, false, false, false, false, false, false, false, false, false, false] rfl rfl (by kernel_rfl) (fun _ _ _ h => h) (Or.inl ⟨by rfl, ?_⟩) ?_ ?_
      rotate_left
      ·intro w'
       go_simp
       with_reducible rfl
      rotate_left
      ·simp only [Act.put, List.setIfInBounds_toArray, List.set_cons_zero, List.set_cons_succ]
       rfl
      refine pure_ (i := 5) (N := some 20) (v := ?_) (a' := ?_) #[true, true, true, true, true, true, false, false, false, false, false, false, false, false, false, false, false, false, false] rfl rfl (by kernel_rfl) (fun _ _ _ h => h) (Or.inl ⟨by rfl, ?_⟩) ?_ ?_
      rotate_left
      ·intro w'
       go_simp
       with_reducible rfl
      rotate_left
      ·simp only [Act.put, List.setIfInBounds_toArray, List.set_cons_zero, List.set_cons_succ]
       rfl
      refine take_ (i := 6) (N := some 21) (v := (.slice A1 x.f1.length c1)) (a' := ?_) #[true, true, true, true, true, true, true, false, false, false, false, false, false, false, false, false, false, false, false] rfl rfl (by kernel_rfl) (fun _ _ _ h => h) (Or.inl ⟨by rfl, ?_⟩) hHeld ?_ ?_
      rotate_left
      rotate_left
      ·simp only [Act.put, List.setIfInBounds_toArray, List.set_cons_zero, List.set_cons_succ]
       rfl
      rotate_left
      ·rintro w' ⟨⟨s0, s1⟩, s2⟩
       go_simp
      refine pure_ (i := 7) (N := some 22) (v := ?_) (a' := ?_) #[true, true, true, true, true, true, true, true, false, false, false, false, false, false, false, false, false, false, false] rfl rfl (by kernel_rfl) (fun _ _ _ h => h) (Or.inl ⟨by rfl, ?_⟩) ?_ ?_
      rotate_left
      ·intro w'
       go_simp
       with_reducible rfl
      rotate_left
      ·simp only [Act.put, List.setIfInBounds_toArray, List.set_cons_zero, List.set_cons_succ]
       rfl
      refine pure_ (i := 8) (N := some 23) (v := ?_) (a' := ?_) #[true, true, true, true, true, true, true, true, true, false, false, false, false, false, false, false, false, false, false] rfl rfl (by kernel_rfl) (fun _ _ _ h => h) (Or.inl ⟨by rfl, ?_⟩) ?_ ?_
      rotate_left
      ·intro w'
       go_simp
       with_reducible rfl
      rotate_left
      ·simp only [Act.put, List.setIfInBounds_toArray, List.set_cons_zero, List.set_cons_succ]
       rfl
      refine pure_ (i := 9) (N := some 24) (v := ?_) (a' := ?_) #[true, true, true, true, true, true, true, true, true, true, false, false, false, false, false, false, false, false, false] rfl rfl (by kernel_rfl) (fun _ _ _ h => h) (Or.inl ⟨by rfl, ?_⟩) ?_ ?_
      rotate_left
      ·intro w'
       go_simp
       with_reducible rfl
      rotate_left
      ·simp only [Act.put, List.setIfInBounds_toArray, List.set_cons_zero, List.set_cons_succ]
       rfl
      refine pure_ (i := 10) (N := some 25) (v := ?_) (a' := ?_) #[true, true, true, true, true, true, true, true, true, true, true, false, false, false, false, false, false, false, false] rfl rfl (by kernel_rfl) (fun _ _ _ h => h) (Or.inl ⟨by rfl, ?_⟩) ?_ ?_
      rotate_left
      ·intro w'
       go_simp
       with_reducible rfl
      rotate_left
      ·simp only [Act.put, List.setIfInBounds_toArray, List.set_cons_zero, List.set_cons_succ]
       rfl
      refine pure_ (i := 11) (N := some 26) (v := undef) (a' := ?_) #[true, true, true, true, true, true, true, true, true, true, true, true, false, false, false, false, false, false, false] rfl rfl (by kernel_rfl) (fun _ _ _ h => h) (Or.inr ⟨by rfl, rfl⟩) ?_ ?_
      rotate_left
      ·simp only [Act.put, List.setIfInBounds_toArray, List.set_cons_zero, List.set_cons_succ]
       rfl
      refine pure_ (i := 12) (N := some 27) (v := undef) (a' := ?_) #[true, true, true, true, true, true, true, true, true, true, true, true, true, false, false, false, false, false, false] rfl rfl (by kernel_rfl) (fun _ _ _ h => h) (Or.inr ⟨by rfl, rfl⟩) ?_ ?_
      rotate_left
      ·simp only [Act.put, List.setIfInBounds_toArray, List.set_cons_zero, List.set_cons_succ]
       rfl
      refine pure_ (i := 13) (N := some 28) (v := undef) (a' := ?_) #[true, true, true, true, true, true, true, true, true, true, true, true, true, true, false, false, false, false, false] rfl rfl (by kernel_rfl) (fun _ _ _ h => h) (Or.inr ⟨by rfl, rfl⟩) ?_ ?_
      rotate_left
      ·simp only [Act.put, List.setIfInBounds_toArray, List.set_cons_zero, List.set_cons_succ]
       rfl
      refine pure_ (i := 14) (N := some 29) (v := undef) (a' := ?_) #[true, true, true, true, true, true, true, true, true, true, true, true, true, true, true, false, false, false, false] rfl rfl (by kernel_rfl) (fun _ _ _ h => h) (Or.inr ⟨by rfl, rfl⟩) ?_ ?_
      rotate_left
      ·simp only [Act.put, List.setIfInBounds_toArray, List.set_cons_zero, List.set_cons_succ]
       rfl
      refine pure_ (i := 15) (N := some 30) (v := undef) (a' := ?_) #[true, true, true, true, true, true, true, true, true, true, true, true, true, true, true, true, false, false, false] rfl rfl (by kernel_rfl) (fun _ _ _ h => h) (Or.inr ⟨by rfl, rfl⟩) ?_ ?_
      rotate_left
      ·simp only [Act.put, List.setIfInBounds_toArray, List.set_cons_zero, List.set_cons_succ]
       rfl
      refine pure_ (i := 16) (N := some 31) (v := undef) (a' := ?_) #[true, true, true, true, true, true, true, true, true, true, true, true, true, true, true, true, true, false, false] rfl rfl (by kernel_rfl) (fun _ _ _ h => h) (Or.inr ⟨by rfl, rfl⟩) ?_ ?_
      rotate_left
      ·simp only [Act.put, List.setIfInBounds_toArray, List.set_cons_zero, List.set_cons_succ]
       rfl
      refine pure_ (i := 17) (N := some 32) (v := undef) (a' := ?_) #[true, true, true, true, true, true, true, true, true, true, true, true, true, true, true, true, true, true, false] rfl rfl (by kernel_rfl) (fun _ _ _ h => h) (Or.inr ⟨by rfl, rfl⟩) ?_ ?_
      rotate_left
      ·simp only [Act.put, List.setIfInBounds_toArray, List.set_cons_zero, List.set_cons_succ]
       rfl
      refine pure_ (i := 18) (N := some 33) (v := ?_) (a' := ?_) #[true, true, true, true, true, true, true, true, true, true, true, true, true, true, true, true, true, true, true] rfl rfl (by kernel_rfl) (fun _ _ _ h => h) (Or.inl ⟨by rfl, ?_⟩) ?_ ?_
      rotate_left
      ·intro w'
       go_simp
       with_reducible rfl
      rotate_left
      ·simp only [Act.put, List.setIfInBounds_toArray, List.set_cons_zero, List.set_cons_succ]
       rfl
      refine done_ (n := 0) (by kernel_rfl) ?_
      go_wp2
      go_ret
      have hi := HHI.out
      exact ⟨by rw [HPF.out, range_not _ _ i.toNat (by omega) (by rw [HPO.out]; rfl)]; rfl, hHeld.2⟩
     ·rw [b2] at HPO
      have d2 : decide ((256 : Int) < (x.f1.length : Int)) = false := decide_eq_false (by have := of_decide_eq_true b2; omega)
      clear b2
      cases b3 : LT.any (isP x.f0)
      ·rw [b3] at HPO
       rw [b3] at HCN
       clear b1 b3
       go_wp2
       refine start_ (n := 19) (S := fun w' => (w'.cell? ⟨wr.heap.size, 0, none⟩ = some (.string x.f0) ∧ w'.cell? ⟨wr.heap.size, 1, none⟩ = some (.slice A1 x.f1.length c1)) ∧ Below w.heap.size w w') (ds := []) #[false, false, false, false, false, false, false, false, false, false, false, false, false, false, false, false, false, false, false] (by kernel_rfl) rfl rfl (held2_drew wr w _ _ _ HB.out) (fun hHeld => ?_)
       refine pure_ (i := 0) (N := some 15) (v := ?_) (a' := ?_) #[true, false, false, false, false, false, false, false, false, false, false, false, false, false, false, false, false, false, false] rfl rfl (by kernel_rfl) (fun _ _ _ h => h) (Or.inl ⟨by rfl, ?_⟩) ?_ ?_
       rotate_left
       ·intro w'
        go_simp
        with_reducible rfl
       rotate_left
       ·simp only [Act.put, List.setIfInBounds_toArray, List.set_cons_zero, List.set_cons_succ]
        rfl
       refine take_ (i := 1) (N := some 16) (v := (.string x.f0)) (a' := ?_) #[true, true, false, false, false, false, false, false, false, false, false, false, false, false, false, false, false, false, false] rfl rfl (by kernel_rfl) (fun _ _ _ h => h) (Or.inl ⟨by rfl, ?_⟩) hHeld ?_ ?_
       rotate_left
       rotate_left
       ·simp only [Act.put, List.setIfInBounds_toArray, List.set_cons_zero, List.set_cons_succ]
        rfl
       rotate_left
       ·rintro w' ⟨⟨s0, s1⟩, s2⟩
        go_simp
       refine one_ (i := 2) (N := some 17) #[true, true, true, false, false, false, false, false, false, false, false, false, false, false, false, false, false, false, false] rfl rfl (by kernel_rfl) (by decide) (fun K hK => ?_)
       refine goes_ Try.func73 (by kernel_rfl) rfl #[.string x.f0] (by rfl) rfl rfl (by first | rfl | (simp only [List.map_toArray, List.map_cons, List.map_nil]; rfl)) ?_
       refine (HNA.out _).mono ?_
       rintro e w2 ⟨rfl, hb⟩
       refine ⟨_, rfl, hK.out _ _ (held2_step hHeld hb) (fun hHeld => ?_)⟩
       clear hb
       clear hK K
       simp only [Act.put, List.setIfInBounds_toArray, List.set_cons_zero, List.set_cons_succ]
       refine pure_ (i := 3) (N := some 18) (v := ?_) (a' := ?_) #[true, true, true, true, false, false, false, false, false, false, false, false, false, false, false, false, false, false, false] rfl rfl (by kernel_rfl) (fun _ _ _ h => h) (Or.inl ⟨by rfl, ?_⟩) ?_ ?_
       rotate_left
       ·intro w'
        go_simp
        with_reducible rfl
       rotate_left
       ·simp only [Act.put, List.setIfInBounds_toArray, List.set_cons_zero, List.set_cons_succ]
        rfl
       refine pure_ (i := 4) (N := some 19) (v := ?_) (a' := ?_) #[true, true, true, true, true, false, false, false, false, false, false, false, false, false, false, false, false, false, false] rfl rfl (by kernel_rfl) (fun _ _ _ h => h) (Or.inl ⟨by rfl, ?_⟩) ?_ ?_
       rotate_left
       ·intro w'
        go_simp
        with_reducible rfl
       rotate_left
       ·simp only [Act.put, List.setIfInBounds_toArray, List.set_cons_zero, List.set_cons_succ]
        rfl
       refine pure_ (i := 5) (N := some 20) (v := ?_) (a' := ?_) #[true, true, true, true, true, true, false, false, false, false, false, false, false, false, false, false, false, false, false] rfl rfl (by kernel_rfl) (fun _ _ _ h => h) (Or.inl ⟨by rfl, ?_⟩) ?_ ?_
       rotate_left
       ·intro w'
        go_simp
        with_reducible rfl
       rotate_left
       ·simp only [Act.put, List.setIfInBounds_toArray, List.set_cons_zero, List.set_cons_succ]
        rfl
       refine take_ (i := 6) (N := some 21) (v := (.slice A1 x.f1.length c1)) (a' := ?_) #[true, true, true, true, true, true, true, false, false, false, false, false, false, false, false, false, false, false, false] rfl rfl (by kernel_rfl) (fun _ _ _ h => h) (Or.inl ⟨by rfl, ?_⟩) hHeld ?_ ?_
       rotate_left
       rotate_left
       ·simp only [Act.put, List.setIfInBounds_toArray, List.set_cons_zero, List.set_cons_succ]
        rfl
       rotate_left
       ·rintro w' ⟨⟨s0, s1⟩, s2⟩
        go_simp
       refine pure_ (i := 7) (N := some 22) (v := ?_) (a' := ?_) #[true, true, true, true, true, true, true, true, false, false, false, false, false, false, false, false, false, false, false] rfl rfl (by kernel_rfl) (fun _ _ _ h => h) (Or.inl ⟨by rfl, ?_⟩) ?_ ?_
       rotate_left
       ·intro w'
        go_simp
        with_reducible rfl
       rotate_left
       ·simp only [Act.put, List.setIfInBounds_toArray, List.set_cons_zero, List.set_cons_succ]
        rfl
       refine pure_ (i := 8) (N := some 23) (v := ?_) (a' := ?_) #[true, true, true, true, true, true, true, true, true, false, false, false, false, false, false, false, false, false, false] rfl rfl (by kernel_rfl) (fun _ _ _ h => h) (Or.inl ⟨by rfl, ?_⟩) ?_ ?_
       rotate_left
       ·intro w'
        go_simp
        with_reducible rfl
       rotate_left
       ·simp only [Act.put, List.setIfInBounds_toArray, List.set_cons_zero, List.set_cons_succ]
        rfl
       refine pure_ (i := 9) (N := some 24) (v := ?_) (a' := ?_) #[true, true, true, true, true, true, true, true, true, true, false, false, false, false, false, false, false, false, false] rfl rfl (by kernel_rfl) (fun _ _ _ h => h) (Or.inl ⟨by rfl, ?_⟩) ?_ ?_
       rotate_left
       ·intro w'
        go_simp
        with_reducible rfl
       rotate_left
       ·simp only [Act.put, List.setIfInBounds_toArray, List.set_cons_zero, List.set_cons_succ]
        rfl
       refine pure_ (i := 10) (N := some 25) (v := ?_) (a' := ?_) #[true, true, true, true, true, true, true, true, true, true, true, false, false, false, false, false, false, false, false] rfl rfl (by kernel_rfl) (fun _ _ _ h => h) (Or.inl ⟨by rfl, ?_⟩) ?_ ?_
       rotate_left
       ·intro w'
        go_simp
        with_reducible rfl
       rotate_left
       ·simp only [Act.put, List.setIfInBounds_toArray, List.set_cons_zero, List.set_cons_succ]
        rfl
       refine pure_ (i := 11) (N := some 26) (v := ?_) (a' := ?_) #[true, true, true, true, true, true, true, true, true, true, true, true, false, false, false, false, false, false, false] rfl rfl (by kernel_rfl) (fun _ _ _ h => h) (Or.inl ⟨by rfl, ?_⟩) ?_ ?_
       rotate_left
       ·intro w'
        go_simp
        with_reducible rfl
       rotate_left
       ·simp only [Act.put, List.setIfInBounds_toArray, List.set_cons_zero, List.set_cons_succ]
        rfl
       refine pure_ (i := 12) (N := some 27) (v := ?_) (a' := ?_) #[true, true, true, true, true, true, true, true, true, true, true, true, true, false, false, false, false, false, false] rfl rfl (by kernel_rfl) (fun _ _ _ h => h) (Or.inl ⟨by rfl, ?_⟩) ?_ ?_
       rotate_left
       ·intro w'
        go_simp
        with_reducible rfl
       rotate_left
       ·simp only [Act.put, List.setIfInBounds_toArray, List.set_cons_zero, List.set_cons_succ]
        rfl
       refine pure_ (i := 13) (N := some 28) (v := ?_) (a' := ?_) #[true, true, true, true, true, true, true, true, true, true, true, true, true, true, false, false, false, false, false] rfl rfl (by kernel_rfl) (fun _ _ _ h => h) (Or.inl ⟨by rfl, ?_⟩) ?_ ?_
       rotate_left
       ·intro w'
        go_simp
        with_reducible rfl
       rotate_left
       ·simp only [Act.put, List.setIfInBounds_toArray, List.set_cons_zero, List.set_cons_succ]
        rfl
       refine pure_ (i := 14) (N := some 29) (v := ?_) (a' := ?_) #[true, true, true, true, true, true, true, true, true, true, true, true, true, true, true, false, false, false, false] rfl rfl (by kernel_rfl) (fun _ _ _ h => h) (Or.inl ⟨by rfl, ?_⟩) ?_ ?_
       rotate_left
       ·intro w'
        go_simp
        with_reducible rfl
       rotate_left
       ·simp only [Act.put, List.setIfInBounds_toArray, List.set_cons_zero, List.set_cons_succ]
        rfl
       refine take_ (i := 15) (N := some 30) (v := (.string x.f0)) (a' := ?_) #[true, true, true, true, true, true, true, true, true, true, true, true, true, true, true, true, false, false, false] rfl rfl (by kernel_rfl) (fun _ _ _ h => h) (Or.inl ⟨by rfl, ?_⟩) hHeld ?_ ?_
       rotate_left
       rotate_left
       ·simp only [Act.put, List.setIfInBounds_toArray, List.set_cons_zero, List.set_cons_succ]
        rfl
       rotate_left
       ·rintro w' ⟨⟨s0, s1⟩, s2⟩
        go_simp
       refine one_ (i := 16) (N := some 31) #[true, true, true, true, true, true, true, true, true, true, true, true, true, true, true, true, true, false, false] rfl rfl (by kernel_rfl) (by decide) (fun K hK => ?_)
       refine goes_ Try.func91 (by kernel_rfl) rfl #[.string x.f0] (by rfl) rfl rfl (by first | rfl | (simp only [List.map_toArray, List.map_cons, List.map_nil]; rfl)) ?_
       refine (namedP_calls x.f0 _).mono ?_
       rintro e w3 ⟨gb, rfl, hgb, hh, hb⟩
       have HH := Aside0.mk hh
       refine ⟨_, rfl, hK.out _ _ (held2_step hHeld hb) (fun hHeld => ?_)⟩
       clear hgb hh hb
       clear hK K
       simp only [Act.put, List.setIfInBounds_toArray, List.set_cons_zero, List.set_cons_succ]
       refine one_ (i := 17) (N := some 32) #[true, true, true, true, true, true, true, true, true, true, true, true, true, true, true, true, true, true, false] rfl rfl (by kernel_rfl) (by decide) (fun K hK => ?_)
       refine goes_ Try.func90 (by kernel_rfl) rfl #[.slice (some ad) LT.length c, .func (.func 99) #[] #[.pointer (some ⟨gb, 0, none⟩)]] (by rfl) rfl rfl (by first | rfl | (simp only [List.map_toArray, List.map_cons, List.map_nil]; rfl)) ?_
       refine (HCN.out gb _ hHeld.2 HH.out).mono ?_
       rintro e w4 ⟨rfl, hb⟩
       refine ⟨_, rfl, hK.out _ _ (held2_step hHeld hb) (fun hHeld => ?_)⟩
       clear hb
       clear hK K
       simp only [Act.put, List.setIfInBounds_toArray, List.set_cons_zero, List.set_cons_succ]
       refine pure_ (i := 18) (N := some 33) (v := ?_) (a' := ?_) #[true, true, true, true, true, true, true, true, true, true, true, true, true, true, true, true, true, true, true] rfl rfl (by kernel_rfl) (fun _ _ _ h => h) (Or.inl ⟨by rfl, ?_⟩) ?_ ?_
       rotate_left
       ·intro w'
        go_simp
        with_reducible rfl
       rotate_left
       ·simp only [Act.put, List.setIfInBounds_toArray, List.set_cons_zero, List.set_cons_succ]
        rfl
       refine done_ (n := 0) (by kernel_rfl) ?_
       go_wp2
       go_roundg k1
       case measure => omega
       case rel =>
        have hi := HHI.out
        refine ⟨i + 1, rfl, ⟨by omega, by omega⟩, ⟨fun j hj => ?_⟩, ⟨hHeld.2⟩⟩
        by_cases hji : j = i.toNat
        ·subst hji
         rw [HPO.out]
         rfl
        ·exact HZ.out j (by omega)
      ·rw [b3] at HPO HCN
       clear b1 b3
       go_wp2
       refine start_ (n := 19) (S := fun w' => (w'.cell? ⟨wr.heap.size, 0, none⟩ = some (.string x.f0) ∧ w'.cell? ⟨wr.heap.size, 1, none⟩ = some (.slice A1 x.f1.length c1)) ∧ Below w.heap.size w w') (ds := []) #[false, false, false, false, false, false, false, false, false, false, false, false, false, false, false, false, false, false, false] (by kernel_rfl) rfl rfl (held2_drew wr w _ _ _ HB.out) (fun hHeld => ?_)
       refine pure_ (i := 0) (N := some 15) (v := ?_) (a' := ?_) #[true, false, false, false, false, false, false, false, false, false, false, false, false, false, false, false, false, false, false] rfl rfl (by kernel_rfl) (fun _ _ _ h => h) (Or.inl ⟨by rfl, ?_⟩) ?_ ?_
       rotate_left
       ·intro w'
        go_simp
        with_reducible rfl
       rotate_left
       ·simp only [Act.put, List.setIfInBounds_toArray, List.set_cons_zero, List.set_cons_succ]
        rfl
       refine take_ (i := 1) (N := some 16) (v := (.string x.f0)) (a' := ?_) #[true, true, false, false, false, false, false, false, false, false, false, false, false, false, false, false, false, false, false] rfl rfl (by kernel_rfl) (fun _ _ _ h => h) (Or.inl ⟨by rfl, ?_⟩) hHeld ?_ ?_
       rotate_left
       rotate_left
       ·simp only [Act.put, List.setIfInBounds_toArray, List.set_cons_zero, List.set_cons_succ]
        rfl
       rotate_left
       ·rintro w' ⟨⟨s0, s1⟩, s2⟩
        go_simp
       refine one_ (i := 2) (N := some 17) #[true, true, true, false, false, false, false, false, false, false, false, false, false, false, false, false, false, false, false] rfl rfl (by kernel_rfl) (by decide) (fun K hK => ?_)
       refine goes_ Try.func73 (by kernel_rfl) rfl #[.string x.f0] (by rfl) rfl rfl (by first | rfl | (simp only [List.map_toArray, List.map_cons, List.map_nil]; rfl)) ?_
       refine (HNA.out _).mono ?_
       rintro e w2 ⟨rfl, hb⟩
       refine ⟨_, rfl, hK.out _ _ (held2_step hHeld hb) (fun hHeld => ?_)⟩
       clear hb
       clear hK K
       simp only [Act.put, List.setIfInBounds_toArray, List.set_cons_zero, List.set_cons_succ]
       refine pure_ (i := 3) (N := some 18) (v := ?_) (a' := ?_) #[true, true, true, true, false, false, false, false, false, false, false, false, false, false, false, false, false, false, false] rfl rfl (by kernel_rfl) (fun _ _ _ h => h) (Or.inl ⟨by rfl, ?_⟩) ?_ ?_
       rotate_left
       ·intro w'
        go_simp
        with_reducible rfl
       rotate_left
       ·simp only [Act.put, List.setIfInBounds_toArray, List.set_cons_zero, List.set_cons_succ]
        rfl
       refine pure_ (i := 4) (N := some 19) (v := ?_) (a' := ?_) #[true, true, true, true, true, false, false, false, false, false, false, false, false, false, false, false, false, false, false] rfl rfl (by kernel_rfl) (fun _ _ _ h => h) (Or.inl ⟨by rfl, ?_⟩) ?_ ?_
       rotate_left
       ·intro w'
        go_simp
        with_reducible rfl
       rotate_left
       ·simp only [Act.put, List.setIfInBounds_toArray, List.set_cons_zero, List.set_cons_succ]
        rfl
       refine pure_ (i := 5) (N := some 20) (v := ?_) (a' := ?_) #[true, true, true, true, true, true, false, false, false, false, false, false, false, false, false, false, false, false, false] rfl rfl (by kernel_rfl) (fun _ _ _ h => h) (Or.inl ⟨by rfl, ?_⟩) ?_ ?_
       rotate_left
       ·intro w'
        go_simp
        with_reducible rfl
       rotate_left
       ·simp only [Act.put, List.setIfInBounds_toArray, List.set_cons_zero, List.set_cons_succ]
        rfl
       refine take_ (i := 6) (N := some 21) (v := (.slice A1 x.f1.length c1)) (a' := ?_) #[true, true, true, true, true, true, true, false, false, false, false, false, false, false, false, false, false, false, false] rfl rfl (by kernel_rfl) (fun _ _ _ h => h) (Or.inl ⟨by rfl, ?_⟩) hHeld ?_ ?_
       rotate_left
       rotate_left
       ·simp only [Act.put, List.setIfInBounds_toArray, List.set_cons_zero, List.set_cons_succ]
        rfl
       rotate_left
       ·rintro w' ⟨⟨s0, s1⟩, s2⟩
        go_simp
       refine pure_ (i := 7) (N := some 22) (v := ?_) (a' := ?_) #[true, true, true, true, true, true, true, true, false, false, false, false, false, false, false, false, false, false, false] rfl rfl (by kernel_rfl) (fun _ _ _ h => h) (Or.inl ⟨by rfl, ?_⟩) ?_ ?_
       rotate_left
       ·intro w'
        go_simp
        with_reducible rfl
       rotate_left
       ·simp only [Act.put, List.setIfInBounds_toArray, List.set_cons_zero, List.set_cons_succ]
        rfl
       refine pure_ (i := 8) (N := some 23) (v := ?_) (a' := ?_) #[true, true, true, true, true, true, true, true, true, false, false, false, false, false, false, false, false, false, false] rfl rfl (by kernel_rfl) (fun _ _ _ h => h) (Or.inl ⟨by rfl, ?_⟩) ?_ ?_
       rotate_left
       ·intro w'
        go_simp
        with_reducible rfl
       rotate_left
       ·simp only [Act.put, List.setIfInBounds_toArray, List.set_cons_zero, List.set_cons_succ]
        rfl
       refine pure_ (i := 9) (N := some 24) (v := ?_) (a' := ?_) #[true, true, true, true, true, true, true, true, true, true, false, false, false, false, false, false, false, false, false] rfl rfl (by kernel_rfl) (fun _ _ _ h => h) (Or.inl ⟨by rfl, ?_⟩) ?_ ?_
       rotate_left
       ·intro w'
        go_simp
        with_reducible rfl
       rotate_left
       ·simp only [Act.put, List.setIfInBounds_toArray, List.set_cons_zero, List.set_cons_succ]
        rfl
       refine pure_ (i := 10) (N := some 25) (v := ?_) (a' := ?_) #[true, true, true, true, true, true, true, true, true, true, true, false, false, false, false, false, false, false, false] rfl rfl (by kernel_rfl) (fun _ _ _ h => h) (Or.inl ⟨by rfl, ?_⟩) ?_ ?_
       rotate_left
       ·intro w'
        go_simp
        with_reducible rfl
       rotate_left
       ·simp only [Act.put, List.setIfInBounds_toArray, List.set_cons_zero, List.set_cons_succ]
        rfl
       refine pure_ (i := 11) (N := some 26) (v := ?_) (a' := ?_) #[true, true, true, true, true, true, true, true, true, true, true, true, false, false, false, false, false, false, false] rfl rfl (by kernel_rfl) (fun _ _ _ h => h) (Or.inl ⟨by rfl, ?_⟩) ?_ ?_
       rotate_left
       ·intro w'
        go_simp
        with_reducible rfl
       rotate_left
       ·simp only [Act.put, List.setIfInBounds_toArray, List.set_cons_zero, List.set_cons_succ]
        rfl
       refine pure_ (i := 12) (N := some 27) (v := ?_) (a' := ?_) #[true, true, true, true, true, true, true, true, true, true, true, true, true, false, false, false, false, false, false] rfl rfl (by kernel_rfl) (fun _ _ _ h => h) (Or.inl ⟨by rfl, ?_⟩) ?_ ?_
       rotate_left
       ·intro w'
        go_simp
        with_reducible rfl
       rotate_left
       ·simp only [Act.put, List.setIfInBounds_toArray, List.set_cons_zero, List.set_cons_succ]
        rfl
       refine pure_ (i := 13) (N := some 28) (v := ?_) (a' := ?_) #[true, true, true, true, true, true, true, true, true, true, true, true, true, true, false, false, false, false, false] rfl rfl (by kernel_rfl) (fun _ _ _ h => h) (Or.inl ⟨by rfl, ?_⟩) ?_ ?_
       rotate_left
       ·intro w'
        go_simp
        with_reducible rfl
       rotate_left
       ·simp only [Act.put, List.setIfInBounds_toArray, List.set_cons_zero, List.set_cons_succ]
        rfl
       refine pure_ (i := 14) (N := some 29) (v := ?_) (a' := ?_) #[true, true, true, true, true, true, true, true, true, true, true, true, true, true, true, false, false, false, false] rfl rfl (by kernel_rfl) (fun _ _ _ h => h) (Or.inl ⟨by rfl, ?_⟩) ?_ ?_
       rotate_left
       ·intro w'
        go_simp
        with_reducible rfl
       rotate_left
       ·simp only [Act.put, List.setIfInBounds_toArray, List.set_cons_zero, List.set_cons_succ]
        rfl
       refine take_ (i := 15) (N := some 30) (v := (.string x.f0)) (a' := ?_) #[true, true, true, true, true, true, true, true, true, true, true, true, true, true, true, true, false, false, false] rfl rfl (by kernel_rfl) (fun _ _ _ h => h) (Or.inl ⟨by rfl, ?_⟩) hHeld ?_ ?_
       rotate_left
       rotate_left
       ·simp only [Act.put, List.setIfInBounds_toArray, List.set_cons_zero, List.set_cons_succ]
        rfl
       rotate_left
       ·rintro w' ⟨⟨s0, s1⟩, s2⟩
        go_simp
       refine one_ (i := 16) (N := some 31) #[true, true, true, true, true, true, true, true, true, true, true, true, true, true, true, true, true, false, false] rfl rfl (by kernel_rfl) (by decide) (fun K hK => ?_)
       refine goes_ Try.func91 (by kernel_rfl) rfl #[.string x.f0] (by rfl) rfl rfl (by first | rfl | (simp only [List.map_toArray, List.map_cons, List.map_nil]; rfl)) ?_
       refine (namedP_calls x.f0 _).mono ?_
       rintro e w3 ⟨gb, rfl, hgb, hh, hb⟩
       have HH := Aside0.mk hh
       refine ⟨_, rfl, hK.out _ _ (held2_step hHeld hb) (fun hHeld => ?_)⟩
       clear hgb hh hb
       clear hK K
       simp only [Act.put, List.setIfInBounds_toArray, List.set_cons_zero, List.set_cons_succ]
       refine one_ (i := 17) (N := some 32) #[true, true, true, true, true, true, true, true, true, true, true, true, true, true, true, true, true, true, false] rfl rfl (by kernel_rfl) (by decide) (fun K hK => ?_)
       refine goes_ Try.func90 (by kernel_rfl) rfl #[.slice (some ad) LT.length c, .func (.func 99) #[] #[.pointer (some ⟨gb, 0, none⟩)]] (by rfl) rfl rfl (by first | rfl | (simp only [List.map_toArray, List.map_cons, List.map_nil]; rfl)) ?_
       refine (HCN.out gb _ hHeld.2 HH.out).mono ?_
       rintro e w4 ⟨rfl, hb⟩
       refine ⟨_, rfl, hK.out _ _ (held2_step hHeld hb) (fun hHeld => ?_)⟩
       clear hb
       clear hK K
       simp only [Act.put, List.setIfInBounds_toArray, List.set_cons_zero, List.set_cons_succ]
       refine pure_ (i := 18) (N := some 33) (v := ?_) (a' := ?_) #[true, true, true, true, true, true, true, true, true, true, true, true, true, true, true, true, true, true, true] rfl rfl (by kernel_rfl) (fun _ _ _ h => h) (Or.inl ⟨by rfl, ?_⟩) ?_ ?_
       rotate_left
       ·intro w'
        go_simp
        with_reducible rfl
       rotate_left
       ·simp only [Act.put, List.setIfInBounds_toArray, List.set_cons_zero, List.set_cons_succ]
        rfl
       refine done_ (n := 0) (by kernel_rfl) ?_
       go_wp2
       go_ret
       have hi := HHI.out
       exact ⟨by rw [HPF.out, range_not _ _ i.toNat (by omega) (by rw [HPO.out]; rfl)]; rfl, hHeld.2⟩
 ·have d1 : decide ((16 : Int) < (l.length : Int)) = true := decide_eq_true (by omega)
  have HPF := Aside0.mk (show propsF l = false by unfold propsF; rw [decide_eq_false h16, Bool.false_and])
  clear hC hc hm h16
  go_enter Try.func72, Try.ntmps72
  go_wp2
  go_ret
  exact ⟨by rw [HPF.out]; rfl, Below.refl _ _⟩
end Go.Proofs.Ytfpkakedlapmkaa.Q
end
section
namespace Go.Proofs.Ytfpkakedlapmkaa.Q
open Go.RowKit Go.Proofs.YtfpkakedlapmkaaW.PrintWords Go.Proofs.YtfpkakedlapmkaaW.PrintLast Go.Proofs.YtfpkakedlapmkaaW.PrintMore
set_option linter.unusedVariables false
set_option linter.unusedSimpArgs false

attribute [local go_sem] max2_int min2_int max_two min_two max_three min_three max_four min_four
/-! ### slices_Equal_uint32_uint32: function 95 -/
def slices_Equal_uint32_uint32.l0 : Nat → List Int → List Int → Int → Int → Option (Bool)
 | 0, _, _, _, _ => none
 | k + 1, x0, x1, x12, x13 => if x13 < x12 then (if 0 ≤ x13 then (if x13 < (x0.length : Int) then (if x13 < (x1.length : Int) then (if (rd x0 x13) = (rd x1 x13) then (slices_Equal_uint32_uint32.l0 k x0 x1 x12 (wrap64 (x13 + 1))) else (some false)) else (none)) else (none)) else (none)) else (some true)
def slices_Equal_uint32_uint32.f (k : Nat) (l0 : List Int) (l1 : List Int) : Option (Bool) := if (l0.length : Int) = (l1.length : Int) then (slices_Equal_uint32_uint32.l0 k l0 l1 (l0.length : Int) 0) else (some false)
set_option maxHeartbeats 8000000 in
set_option maxRecDepth 100000 in
theorem slices_Equal_uint32_uint32.calls (k : Nat) (A0 : Option Addr) (c0 : Nat) (l0 : List Int) (A1 : Option Addr) (c1 : Nat) (l1 : List Int) (r : Bool) (w : World) (hr0 : Kd.C (Kd.int .u32) w A0 l0.length l0) (hc0 : l0.length ≤ c0) (hr1 : Kd.C (Kd.int .u32) w A1 l1.length l1) (hc1 : l1.length ≤ c1) (h : slices_Equal_uint32_uint32.f k l0 l1 = some r) :
  Calls Try.prog 95 #[.slice A0 l0.length c0, .slice A1 l1.length c1] w fun e w' => e = .returned (.bool r) ∧ Drawn0 w w' := by
 have HR0 := Aside0.mk hr0
 have HC0 := Aside0.mk hc0
 clear hr0 hc0
 have HR1 := Aside0.mk hr1
 have HC1 := Aside0.mk hc1
 clear hr1 hc1
 have H : (if (l0.length : Int) = (l1.length : Int) then (slices_Equal_uint32_uint32.l0 k l0 l1 (l0.length : Int) 0) else (some false)) = some r := h
 clear h
 by_cases c3 : (l0.length : Int) = (l1.length : Int)
 ·rw [if_pos c3] at H
  have c3b0 : ((l0.length : Int) == (l1.length : Int)) = true := beq_iff_eq.mpr c3
  have c3b1 : ((l0.length : Int) != (l1.length : Int)) = false := bne_eq_false_iff_eq.mpr c3
  have c3b2 : (l0.length == l1.length) = true := by first | simpa using c3 | (simp at c3 ⊢; omega)
  clear c3
  have H' := Aside0.mk H
  clear H
  go_enter Try.func95, Try.ntmps95
  go_wp2
  repeat (go_quiet (fail); try go_wp2)
  go_loopg [13] k (fun kq v13 w' => ∃ (x13_1 : Int), v13 = .int .i64 x13_1 ∧ Aside0 (slices_Equal_uint32_uint32.l0 kq l0 l1 (l0.length : Int) x13_1 = some r) ∧ Aside0 (kq ≤ k) ∧ Drawn0 w w')
  case atStart => exact ⟨(0), (by first | rfl | (simp; done) | (simp [*]; done)), H', ⟨Nat.le_refl _⟩, by repeat (first | exact Drawn0.refl _ | apply Drawn0.step)⟩
  case round =>
   clear H'
   try clear c1
   try clear p2
   try clear c3
   try clear c3b0
   try clear c3b1
   try clear c3b2
   obtain ⟨x13_1, rfl, HA, HK1, ⟨m1, rfl⟩⟩ := hrel
   cases gk with
   | zero => exact absurd HA.out (by simp [slices_Equal_uint32_uint32.l0])
   | succ k1 =>
    have H := HA.out
    clear HA
    simp only [slices_Equal_uint32_uint32.l0] at H
    by_cases c4 : x13_1 < (l0.length : Int)
    ·rw [if_pos c4] at H
     have c4b0 : decide (x13_1 < (l0.length : Int)) = true := decide_eq_true c4
     clear c4
     by_cases c5 : 0 ≤ x13_1
     ·rw [if_pos c5] at H
      have c5b0 : decide (0 ≤ x13_1) = true := decide_eq_true c5
      clear c5
      by_cases c6 : x13_1 < (l0.length : Int)
      ·rw [if_pos c6] at H
       have c6b0 : decide (x13_1 < (l0.length : Int)) = true := decide_eq_true c6
       clear c6
       by_cases c7 : x13_1 < (l1.length : Int)
       ·rw [if_pos c7] at H
        have c7b0 : decide (x13_1 < (l1.length : Int)) = true := decide_eq_true c7
        clear c7
        by_cases c8 : (rd l0 x13_1) = (rd l1 x13_1)
        ·rw [if_pos c8] at H
         have c8b0 : ((rd l0 x13_1) == (rd l1 x13_1)) = true := beq_iff_eq.mpr c8
         have c8b1 : ((rd l0 x13_1) != (rd l1 x13_1)) = false := bne_eq_false_iff_eq.mpr c8
         clear c8
         have H' := Aside0.mk H
         clear H
         have p96001 : 0 ≤ (x13_1 : Int) := of_decide_eq_true (by first | (with_reducible assumption) | assumption)
         have q96001 : x13_1 < (l0.length : Int) := of_decide_eq_true (by first | (with_reducible assumption) | assumption)
         obtain ⟨ad96001, e96001, hx96001_0⟩ := Kd.at_int HR0.out x13_1 p96001 q96001
         cases e96001
         replace p96001 := eq_true p96001
         replace q96001 := eq_true q96001
         have p96002 : 0 ≤ (x13_1 : Int) := of_decide_eq_true (by first | (with_reducible assumption) | assumption)
         have q96002 : x13_1 < (l1.length : Int) := of_decide_eq_true (by first | (with_reducible assumption) | assumption)
         obtain ⟨ad96002, e96002, hx96002_0⟩ := Kd.at_int HR1.out x13_1 p96002 q96002
         cases e96002
         replace p96002 := eq_true p96002
         replace q96002 := eq_true q96002
         go_wp2
         repeat (go_quiet (fail); try go_wp2)
         go_roundg k1
         case measure => have := HK1.out; omega
         case rel => exact ⟨(wrap64 (x13_1 + 1)), (by first | rfl | (simp; done) | (simp [*]; done)), H', ⟨by have := HK1.out; omega⟩, by repeat (first | exact Drawn0.refl _ | apply Drawn0.step)⟩
        ·rw [if_neg c8] at H
         have c8b0 : ((rd l0 x13_1) == (rd l1 x13_1)) = false := beq_eq_false_iff_ne.mpr c8
         have c8b1 : ((rd l0 x13_1) != (rd l1 x13_1)) = true := bne_iff_ne.mpr c8
         obtain rfl := Option.some.inj H
         have p96001 : 0 ≤ (x13_1 : Int) := of_decide_eq_true (by first | (with_reducible assumption) | assumption)
         have q96001 : x13_1 < (l0.length : Int) := of_decide_eq_true (by first | (with_reducible assumption) | assumption)
         obtain ⟨ad96001, e96001, hx96001_0⟩ := Kd.at_int HR0.out x13_1 p96001 q96001
         cases e96001
         replace p96001 := eq_true p96001
         replace q96001 := eq_true q96001
         have p96002 : 0 ≤ (x13_1 : Int) := of_decide_eq_true (by first | (with_reducible assumption) | assumption)
         have q96002 : x13_1 < (l1.length : Int) := of_decide_eq_true (by first | (with_reducible assumption) | assumption)
         obtain ⟨ad96002, e96002, hx96002_0⟩ := Kd.at_int HR1.out x13_1 p96002 q96002
         cases e96002
         replace p96002 := eq_true p96002
         replace q96002 := eq_true q96002
         go_wp2
         repeat (go_quiet (fail); try go_wp2)
         go_ret
         exact ⟨by first | rfl | (simp; done) | (simp [*]; done), by repeat (first | exact Drawn0.refl _ | apply Drawn0.step)⟩
       ·rw [if_neg c7] at H
        exact absurd H (by simp)
      ·rw [if_neg c6] at H
       exact absurd H (by simp)
     ·rw [if_neg c5] at H
      exact absurd H (by simp)
    ·rw [if_neg c4] at H
     have c4b0 : decide (x13_1 < (l0.length : Int)) = false := decide_eq_false c4
     clear c4
     obtain rfl := Option.some.inj H
     go_wp2
     repeat (go_quiet (fail); try go_wp2)
     go_ret
     exact ⟨by first | rfl | (simp; done) | (simp [*]; done), by repeat (first | exact Drawn0.refl _ | apply Drawn0.step)⟩
 ·rw [if_neg c3] at H
  have c3b0 : ((l0.length : Int) == (l1.length : Int)) = false := beq_eq_false_iff_ne.mpr c3
  have c3b1 : ((l0.length : Int) != (l1.length : Int)) = true := bne_iff_ne.mpr c3
  have c3b2 : (l0.length == l1.length) = false := by first | simpa using c3 | (simp at c3 ⊢; omega)
  obtain rfl := Option.some.inj H
  go_enter Try.func95, Try.ntmps95
  go_wp2
  repeat (go_quiet (fail); try go_wp2)
  go_ret
  exact ⟨by first | rfl | (simp; done) | (simp [*]; done), by repeat (first | exact Drawn0.refl _ | apply Drawn0.step)⟩

/-- THE ONE PURE STATEMENT of slices_Equal_uint32_uint32: yours. -/
def slices_Equal_uint32_uint32.Pure : Prop := ∀ (l0 : List Int) (l1 : List Int), l0.length ≤ maxLen → l0.length * 4 ≤ 140737488351232 → (∀ x ∈ l0, (Lit.int .u32 x).wf = true) → l1.length ≤ maxLen → l1.length * 4 ≤ 140737488351232 → (∀ x ∈ l1, (Lit.int .u32 x).wf = true) → ∃ k, slices_Equal_uint32_uint32.f k l0 l1 = some true

end Go.Proofs.Ytfpkakedlapmkaa.Q
end
section
set_option linter.unusedSimpArgs false
set_option linter.unusedVariables false
namespace Go.Proofs.Ytfpkakedlapmkaa.Q
open Go.RowKit Go.Proofs.YtfpkakedlapmkaaW.PrintWords Go.Proofs.YtfpkakedlapmkaaW.PrintLast Go.Proofs.YtfpkakedlapmkaaW.PrintMore
attribute [local go_sem] max2_int min2_int max_two min_two max_three min_three max_four min_four
theorem int_drop (l : List Int) (i : Int) (h0 : 0 ≤ i) (h1 : i < l.length) : l.drop i.toNat = rd l i :: l.drop (i + 1).toNat := by
 rw [List.drop_eq_getElem_cons (show i.toNat < l.length by omega), show (i + 1).toNat = i.toNat + 1 by omega]
 simp [rd, List.getD_eq_getElem?_getD, List.getElem?_eq_getElem (show i.toNat < l.length by omega)]
theorem equal_go (a b : List Int) (hl : a.length = b.length) (hm : a.length ≤ 9223372036854775807) : ∀ (d k : Nat) (i : Int), 0 ≤ i → i + d = a.length → d < k → slices_Equal_uint32_uint32.l0 k a b a.length i = some (decide (a.drop i.toNat = b.drop i.toNat))
 | 0, k, i, h0, h1, hk => by
  obtain ⟨k, rfl⟩ : ∃ m, k = m + 1 := ⟨k - 1, by omega⟩
  rw [slices_Equal_uint32_uint32.l0, if_neg (by omega), List.drop_eq_nil_of_le (by omega), List.drop_eq_nil_of_le (by omega), decide_eq_true rfl]
 | d + 1, k, i, h0, h1, hk => by
  obtain ⟨k, rfl⟩ : ∃ m, k = m + 1 := ⟨k - 1, by omega⟩
  have hw : wrap64 (i + 1) = i + 1 := by unfold wrap64; omega
  rw [slices_Equal_uint32_uint32.l0, if_pos (by omega), if_pos h0, if_pos (by omega), if_pos (by omega), hw, equal_go a b hl hm d k (i + 1) (by omega) (by omega) (by omega), int_drop a i h0 (by omega), int_drop b i h0 (by omega)]
  by_cases he : rd a i = rd b i
  ·rw [if_pos he]
   congr 1
   refine decide_eq_decide.2 ⟨fun h => by rw [he, h], fun h => (List.cons.inj h).2⟩
  ·rw [if_neg he, decide_eq_false (fun h => he (List.cons.inj h).1)]
theorem equal_eq (a b : List Int) (hm : a.length ≤ 9223372036854775807) (k : Nat) (hk : a.length < k) : slices_Equal_uint32_uint32.f k a b = some (decide (a = b)) := by
 unfold slices_Equal_uint32_uint32.f
 by_cases hl : a.length = b.length
 ·rw [if_pos (by omega), equal_go a b hl hm a.length k 0 (Int.le_refl _) (by omega) hk]
  rfl
 ·rw [if_neg (by omega), decide_eq_false (fun h => hl (by rw [h]))]
/-- Has a device that parent, name and address? -/
def isN (p : Int) (s : ByteArray) (u : List Int) (x : S91) : Bool := (x.f2 == p) && ((x.f0.toList == s.toList) && decide (x.f1 = u))
theorem is_calls (p : Int) (s : ByteArray) (AU : Option Addr) (lu cu : Nat) (w : World) :
  Calls Try.prog 75 #[.int .i64 p, .string s, .slice AU lu cu] w fun e w' => ∃ g1 g2 g3, e = .returned (.func (.func 94) #[] #[.pointer (some ⟨g1, 0, none⟩), .pointer (some ⟨g2, 0, none⟩), .pointer (some ⟨g3, 0, none⟩)]) ∧ (w.heap.size ≤ g1 ∧ w.heap.size ≤ g2 ∧ w.heap.size ≤ g3) ∧ w'.heap[g1]? = some (.cells #[.int .i64 p] 3 (0, 0)) ∧ w'.heap[g2]? = some (.cells #[.string s] 9 (0, 0)) ∧ w'.heap[g3]? = some (.cells #[.slice AU lu cu] 24 (0, 0)) ∧ Below w.heap.size w w' := by
 have HB0 := Aside0.mk (Below.refl w.heap.size w)
 go_enter Try.func75, Try.ntmps75
 go_wp2_with (first
  | ((with_reducible refine gate_dst (N := 3) rfl ?_); refine box_event ?hg (N := 3) ?hd (cs := #[.int .i64 p]) (t := 3) ?hr ?_; (case hd => rfl); (case hg => rfl); (case hr => first | (go_simp; done) | (go_simp; rfl)); intro g1 hg1 w1 hbox hb; have K1 := Aside0.mk hbox; have B1 := Aside0.mk hb; have G1 := Aside0.mk (show w.heap.size ≤ g1 from hg1 ▸ Nat.le_refl _); clear hbox hb hg1)
  | ((with_reducible refine gate_dst (N := 4) rfl ?_); refine box_event ?hg (N := 4) ?hd (cs := #[.string s]) (t := 9) ?hr ?_; (case hd => rfl); (case hg => rfl); (case hr => first | (go_simp; done) | (go_simp; rfl)); intro g2 hg2 w2 hbox hb; have K2 := Aside0.mk hbox; have L1 := Aside0.mk ((hb.block g1 (blk_lt K1.out)).trans K1.out); have B2 := Aside0.mk (below_step B1.out hb); have G2 := Aside0.mk (show w.heap.size ≤ g2 from hg2 ▸ B1.out.size); clear hbox hb hg2)
  | ((with_reducible refine gate_dst (N := 5) rfl ?_); refine box_event ?hg (N := 5) ?hd (cs := #[.slice AU lu cu]) (t := 24) ?hr ?_; (case hd => rfl); (case hg => rfl); (case hr => first | (go_simp; done) | (go_simp; rfl)); intro g3 hg3 w3 hbox hb; have K3 := Aside0.mk hbox; have M1 := Aside0.mk ((hb.block g1 (blk_lt L1.out)).trans L1.out); have M2 := Aside0.mk ((hb.block g2 (blk_lt K2.out)).trans K2.out); have B3 := Aside0.mk (below_step B2.out hb); have G3 := Aside0.mk (show w.heap.size ≤ g3 from hg3 ▸ B2.out.size); clear hbox hb hg3))
 go_ret
 exact ⟨g1, g2, g3, rfl, ⟨G1.out, G2.out, G3.out⟩, M1.out, M2.out, K3.out, B3.out⟩
set_option maxHeartbeats 2000000 in
theorem isC_calls (x : S91) (A1 : Option Addr) (c1 : Nat) (A3 : Option Addr) (c3 : Nat) (A4 : Option Addr) (c4 : Nat) (p : Int) (s : ByteArray) (u : List Int) (AU : Option Addr) (cu : Nat) (g1 g2 g3 : Nat) (w : World) (h1 : w.heap[g1]? = some (.cells #[.int .i64 p] 3 (0, 0))) (h2 : w.heap[g2]? = some (.cells #[.string s] 9 (0, 0))) (h3 : w.heap[g3]? = some (.cells #[.slice AU u.length cu] 24 (0, 0)))
  (hx : Kd.C (Kd.int .u32) w A1 x.f1.length x.f1) (hxc : x.f1.length ≤ c1) (hu : Kd.C (Kd.int .u32) w AU u.length u) (huc : u.length ≤ cu) :
  Calls Try.prog 94 #[.agg #[.string x.f0, .slice A1 x.f1.length c1, .int .i64 x.f2, .slice A3 x.f3.length c3, .slice A4 x.f4.length c4], .pointer (some ⟨g1, 0, none⟩), .pointer (some ⟨g2, 0, none⟩), .pointer (some ⟨g3, 0, none⟩)] w fun e w' => e = .returned (.bool (isN p s u x)) ∧ Below w.heap.size w w' := by
 have hu91 := Try.underlying91
 have hm := Kd.C_max hx
 have hEq := fun (W : World) (hb : Below w.heap.size w W) => slices_Equal_uint32_uint32.calls 9223372036854775808 A1 c1 x.f1 AU cu u (decide (x.f1 = u)) W (Kd.C_below hx hb) hxc (Kd.C_below hu hb) huc (equal_eq x.f1 u (by omega) _ (by omega))
 have HEQ := Aside0.mk hEq
 have HL := Aside0.mk (⟨blk_lt h1, blk_lt h2, blk_lt h3⟩ : g1 < w.heap.size ∧ g2 < w.heap.size ∧ g3 < w.heap.size)
 have H1 := Aside0.mk h1
 have H2 := Aside0.mk h2
 have H3 := Aside0.mk h3
 have HI := Aside0.mk (show isN p s u x = ((x.f2 == p) && ((x.f0.toList == s.toList) && decide (x.f1 = u))) from rfl)
 clear h1 h2 h3 hx hxc hu huc hm hEq
 cases b1 : (x.f2 == p) <;> cases b2 : (x.f0.toList == s.toList)
 all_goals (
  rw [b1, b2] at HI
  go_enter Try.func94, Try.ntmps94
  go_wp2_with (first
   | ((with_reducible refine gate_dst (N := 4) rfl ?_); refine box_event ?hg (N := 4) ?hd (cs := #[.string x.f0, .slice A1 x.f1.length c1, .int .i64 x.f2, .slice A3 x.f3.length c3, .slice A4 x.f4.length c4]) (t := 91) ?hr ?_; (case hd => rfl); (case hg => rfl); (case hr => first | (go_simp; done) | (go_simp; rfl)); intro ga hga w1 hbox hb; have BK := Aside0.mk hbox; have hz0 := (blk_cell BK.out 0).trans rfl; have hz1 := (blk_cell BK.out 1).trans rfl; have hz2 := (blk_cell BK.out 2).trans rfl; have hf0 := blk_frozen BK.out 0; have hf1 := blk_frozen BK.out 1; have hf2 := blk_frozen BK.out 2; have hy1 : w1.cell? ⟨g1, 0, none⟩ = some (.int .i64 p) := (hb.cell (p := ⟨g1, 0, none⟩) HL.out.1).trans ((blk_cell H1.out 0).trans rfl); have hy2 : w1.cell? ⟨g2, 0, none⟩ = some (.string s) := (hb.cell (p := ⟨g2, 0, none⟩) HL.out.2.1).trans ((blk_cell H2.out 0).trans rfl); have hy3 : w1.cell? ⟨g3, 0, none⟩ = some (.slice AU u.length cu) := (hb.cell (p := ⟨g3, 0, none⟩) HL.out.2.2).trans ((blk_cell H3.out 0).trans rfl); have HB := Aside0.mk hb; clear hbox hb hga)
   | (go_at_call 95; (with_reducible refine (HEQ.out _ HB.out).mono ?_); rintro e w2 ⟨rfl, hd⟩; obtain ⟨n, rfl⟩ := hd.out; clear hd))
  go_ret
  exact ⟨by rw [HI.out]; rfl, by first | exact HB.out | exact pw_below_drewN HB.out _⟩)
set_option maxHeartbeats 2000000 in
set_option maxRecDepth 100000 in
theorem indexNode_calls (p : Int) (s : ByteArray) (u : List Int) (AU : Option Addr) (cu : Nat) (g1 g2 g3 : Nat) (A : Option Addr) (c : Nat) (l : List S91) (w : World) (hC : Kd.C k91 w A l.length l) (h1 : w.heap[g1]? = some (.cells #[.int .i64 p] 3 (0, 0))) (h2 : w.heap[g2]? = some (.cells #[.string s] 9 (0, 0))) (h3 : w.heap[g3]? = some (.cells #[.slice AU u.length cu] 24 (0, 0))) (hu : Kd.C (Kd.int .u32) w AU u.length u) (huc : u.length ≤ cu) :
  Calls Try.prog 93 #[.slice A l.length c, .func (.func 94) #[] #[.pointer (some ⟨g1, 0, none⟩), .pointer (some ⟨g2, 0, none⟩), .pointer (some ⟨g3, 0, none⟩)]] w fun e w' => e = .returned (.int .i64 (idxP (isN p s u) l)) ∧ Below w.heap.size w w' := by
 have hu91 := Try.underlying91
 have t1 := blk_lt h1
 have t2 := blk_lt h2
 have t3 := blk_lt h3
 have HC := Aside0.mk hC
 have HF := Aside0.mk (fun (x : S91) (A1 : Option Addr) (c1 : Nat) (A3 : Option Addr) (c3 : Nat) (A4 : Option Addr) (c4 : Nat) (W : World) (hb : Below w.heap.size w W) (hx : Kd.C (Kd.int .u32) W A1 x.f1.length x.f1) (hxc : x.f1.length ≤ c1) => isC_calls x A1 c1 A3 c3 A4 c4 p s u AU cu g1 g2 g3 W (by rw [hb.block g1 t1]; exact h1) (by rw [hb.block g2 t2]; exact h2) (by rw [hb.block g3 t3]; exact h3) hx hxc (Kd.C_below hu hb) huc)
 clear hC h1 h2 h3 hu huc
 go_enter Try.func93, Try.ntmps93
 go_wp2
 go_loopg [8] l.length (fun kq v8 w' => ∃ i : Int, v8 = .int .i64 i ∧ Aside0 (0 ≤ i ∧ i + kq = l.length) ∧ Aside0 (∀ j : Nat, j < i.toNat → (isN p s u) (l.getD j z91) = false) ∧ Aside0 (Below w.heap.size w w'))
 case atStart => exact ⟨0, rfl, ⟨by omega, by omega⟩, ⟨fun j hj => absurd hj (by simp)⟩, ⟨Below.refl _ _⟩⟩
 case round =>
  obtain ⟨i, rfl, HI, HZ, HB⟩ := hrel
  cases gk with
  | zero =>
   have hlt : decide (i < (l.length : Int)) = false := decide_eq_false (by have := HI.out; omega)
   go_wp2
   go_ret
   have hz := HZ.out
   have hi := HI.out
   refine ⟨?_, HB.out⟩
   rw [idxP_drop (isN p s u) z91 l i.toNat hz, List.drop_eq_nil_of_le (by omega)]
   rfl
  | succ k1 =>
   have hi := HI.out
   have hm := Kd.C_max HC.out
   have hlt : decide (i < (l.length : Int)) = true := decide_eq_true (by omega)
   have p1 : (0 ≤ i) = True := eq_true (by omega)
   have p2 : (i < (l.length : Int)) = True := eq_true (by omega)
   obtain ⟨ad, A1, c1, A3, c3, A4, c4, eA, hx0, hx1, hx2, hx3, hx4, hl1, hg1, hl3, hg3, hl4, hg4⟩ := at_T91 (Kd.C_below HC.out HB.out) i (by omega) (by omega)
   cases eA
   have HGD := Aside0.mk (show rd_T91 l i = l.getD i.toNat z91 from rfl)
   have HIN := Aside0.mk (show (isN p s u) (rd_T91 l i) = true → idxP (isN p s u) l = i from fun h => by
    rw [idxP_here (isN p s u) z91 l i.toNat HZ.out (by omega) h]
    omega)
   have hwr : IntKind.i64.wrap (i + 1) = i + 1 := (i64_w _).trans (by unfold wrap64; omega)
   have hwr2 : wrap64 (i + 1) = i + 1 := by unfold wrap64; omega
   have HG1 := Aside0.mk hg1; have HL1 := Aside0.mk hl1; clear hl1 hg1 hl3 hg3 hl4 hg4
   clear hi hm
   obtain ⟨b, hb0⟩ : ∃ b, b = (isN p s u) (rd_T91 l i) := ⟨_, rfl⟩
   have HBP := Aside0.mk hb0
   cases b with
   | true =>
    clear hb0
    go_wp2_with (first
     | (go_at_call 94; (with_reducible refine (HF.out (rd_T91 l i) A1 c1 A3 c3 A4 c4 _ HB.out HG1.out HL1.out).mono ?_); rintro e w2 ⟨rfl, hb⟩; rw [← HBP.out]; have HB2 := Aside0.mk (below_step HB.out hb); clear hb))
    go_ret
    exact ⟨by rw [HIN.out HBP.out.symm]; rfl, HB2.out⟩
   | false =>
    clear hb0
    go_wp2_with (first
     | (go_at_call 94; (with_reducible refine (HF.out (rd_T91 l i) A1 c1 A3 c3 A4 c4 _ HB.out HG1.out HL1.out).mono ?_); rintro e w2 ⟨rfl, hb⟩; rw [← HBP.out]; have HB2 := Aside0.mk (below_step HB.out hb); clear hb))
    go_roundg k1
    case measure => omega
    case rel =>
     have hi := HI.out
     refine ⟨i + 1, rfl, ⟨by omega, by omega⟩, ⟨fun j hj => ?_⟩, HB2⟩
     by_cases hji : j = i.toNat
     ·subst hji
      rw [← HGD.out]
      exact HBP.out.symm
     ·exact HZ.out j (by omega)
theorem containsNode_calls (p : Int) (s : ByteArray) (u : List Int) (AU : Option Addr) (cu : Nat) (g1 g2 g3 : Nat) (A : Option Addr) (c : Nat) (l : List S91) (w : World) (hC : Kd.C k91 w A l.length l) (h1 : w.heap[g1]? = some (.cells #[.int .i64 p] 3 (0, 0))) (h2 : w.heap[g2]? = some (.cells #[.string s] 9 (0, 0))) (h3 : w.heap[g3]? = some (.cells #[.slice AU u.length cu] 24 (0, 0))) (hu : Kd.C (Kd.int .u32) w AU u.length u) (huc : u.length ≤ cu) :
  Calls Try.prog 74 #[.slice A l.length c, .func (.func 94) #[] #[.pointer (some ⟨g1, 0, none⟩), .pointer (some ⟨g2, 0, none⟩), .pointer (some ⟨g3, 0, none⟩)]] w fun e w' => e = .returned (.bool (l.any (isN p s u))) ∧ Below w.heap.size w w' := by
 have HIX := Aside0.mk (indexNode_calls p s u AU cu g1 g2 g3 A c l w hC h1 h2 h3 hu huc)
 have HAN := Aside0.mk (idxP_any (isN p s u) l)
 clear hC h1 h2 h3 hu huc
 go_enter Try.func74, Try.ntmps74
 go_wp2_with (go_at_call 93; refine HIX.out.mono ?_; rintro e w1 ⟨rfl, hb⟩; have HB := Aside0.mk hb; clear hb)
 go_ret
 exact ⟨by rw [← HAN.out]; rfl, HB.out⟩
end Go.Proofs.Ytfpkakedlapmkaa.Q
end
