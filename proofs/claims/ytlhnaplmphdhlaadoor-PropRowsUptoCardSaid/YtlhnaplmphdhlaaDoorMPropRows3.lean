/- Contracts of Go functions and plain facts, of several texts, one behind the other; no condition. -/
import Derived.RangeFuncWrites
import Derived.RangeFuncBox
import Derived.Test.YtlhnaplmphdhlaaDoorMPropRows2
import Derived.Test.YtlhnaplmphdhlaaDoorMPropRows1
import Derived.ArgAppend
import Derived.Lib.AppendStr
import Derived.Lib.CountLaws
import Derived.Lib.IndexBytes
import Derived.Lib.Split
section
set_option linter.unusedSimpArgs false
set_option linter.unusedVariables false
namespace Go.Proofs.YtlhnaplmphdhlaaDoor.Q
open Go.RowKit Go.Shelf Go.Proofs.YtlhnaplmphdhlaaDoorW.PrintWords Go.Proofs.YtlhnaplmphdhlaaDoorW.PrintLast
attribute [local go_sem] Oper.semAt_some
def bOf (p : List UInt8) : ByteArray := ⟨p.toArray⟩
theorem bOf_size (p : List UInt8) : (bOf p).size = p.length := by
  show p.toArray.size = _
  simp
def pcAt (L : List (List UInt8)) (k : Nat) : ByteArray := bOf (L.getD k [])
def okU (p : List UInt8) : Bool := decide ((parF (bOf p) 16).2 = 0) && !decide (bt (bOf p) 0 = 45) && decide (p.length ≤ 8)
def valU (p : List UInt8) : Int := (parF (bOf p) 16).1
def unitF (s : ByteArray) : List Int × Int := if (cuts 44 s.data.toList).all okU = true then (if 4 < (cuts 44 s.data.toList).length then ([], 3) else ((cuts 44 s.data.toList).map valU, 0)) else ([], 15)
theorem cuts_len (c : UInt8) : ∀ l : List UInt8, (cuts c l).length ≤ l.length + 1
  | [] => by simp [cuts]
  | a :: l => by
    have h := cuts_len c l
    rw [cuts]
    split
    · simp; omega
    · split
      · rename_i h2; rw [h2] at h; simp at h ⊢; omega
      · simp
theorem cuts_size (c : UInt8) : ∀ (l : List UInt8), ∀ p ∈ cuts c l, p.length ≤ l.length
  | [] => by simp [cuts]
  | a :: l => by
    have h := cuts_size c l
    rw [cuts]
    intro p hp
    split at hp
    · rcases List.mem_cons.1 hp with rfl | hp
      · simp
      · have := h p hp; simp; omega
    · split at hp
      · rename_i q qs h2
        rw [h2] at h
        rcases List.mem_cons.1 hp with rfl | hp
        · have := h q (by simp); simp; omega
        · have := h p (by simp [hp]); simp; omega
      · simp at hp; subst hp; simp
theorem info24i : (Tryd.prog.info? 24).map (fun i => (i.zero, i.size, i.bytes)) = some (some (.int .u32 0), 1, 4) := by kernel_rfl
theorem bt_idx (s : ByteArray) (h : 0 < s.size) : ((s[0]'h).toNat : Int) = bt s 0 := by
  unfold bt
  rw [dif_pos (by simpa using h)]
  rfl
theorem parF_pos {s : ByteArray} (h : (parF s 16).2 = 0) : 0 < s.size := by
  rcases Nat.eq_zero_or_pos s.size with h0 | h0
  · exfalso
    have e : s = ⟨#[]⟩ := by
      apply ByteArray.ext
      apply Array.ext'
      exact List.eq_nil_of_length_eq_zero (by rw [Array.length_toList]; exact h0)
    rw [e] at h
    exact absurd h (by decide)
  · exact h0
set_option maxHeartbeats 1000000 in
theorem splitSeq1_in (n : Nat) (s : ByteArray) (c : UInt8) (W : World) :
    CallsIn Fence.wide n Tryd.prog 73 #[.string s, .string ⟨#[c]⟩, .int .i64 0] W fun e w' => e = .returned (.func (.func 92) #[] #[.pointer (some ⟨W.heap.size + 1, 0, none⟩), .pointer (some ⟨W.heap.size, 0, none⟩), .pointer (some ⟨W.heap.size + 1 + 1, 0, none⟩)]) ∧ w' = ((W.alloc (.cells #[.string s] 9)).alloc (.cells #[.string ⟨#[c]⟩] 9)).alloc (.cells #[.int .i64 0] 3) := by
  refine callsIn_of_wp Tryd.func73 rfl trivial ?_ rfl
  simp only [Tryd.ntmps73, List.size_toArray, List.length_cons, List.length_nil, Nat.reduceAdd, Nat.reduceSub, Array.replicate_succ, Array.replicate_zero, List.push_toArray, List.append_toArray, List.nil_append, List.cons_append]
  gi_wp2
  go_ret
  exact ⟨by simp, rfl⟩
set_option maxHeartbeats 1000000 in
theorem splitSeq_in (s : ByteArray) (c : UInt8) (w : World) :
    CallsIn Fence.wide 4 Tryd.prog 53 #[.string s, .string ⟨#[c]⟩] w fun e w' => e = .returned (.func (.func 92) #[] #[.pointer (some ⟨w.heap.size + 1, 0, none⟩), .pointer (some ⟨w.heap.size, 0, none⟩), .pointer (some ⟨w.heap.size + 1 + 1, 0, none⟩)]) ∧ w' = ((w.alloc (.cells #[.string s] 9)).alloc (.cells #[.string ⟨#[c]⟩] 9)).alloc (.cells #[.int .i64 0] 3) := by
  refine callsIn_of_wp Tryd.func53 rfl trivial ?_ rfl
  simp only [Tryd.ntmps53, List.size_toArray, List.length_cons, List.length_nil, Nat.reduceAdd, Nat.reduceSub, Array.replicate_succ, Array.replicate_zero, List.push_toArray, List.append_toArray, List.nil_append, List.cons_append]
  gi_wp2_with (refine ⟨trivial, ?_⟩; gi_at_call 73; refine (splitSeq1_in _ _ _ _).mono ?_; rintro e w' ⟨rfl, rfl⟩)
  go_ret
  exact ⟨rfl, rfl⟩
/-- What stands between two rounds: the numbers so far, the two results, the iterator's cells. -/
def UnitI (w : World) (L : List (List UInt8)) (k : Nat) (W : World) : Prop :=
  ((∃ v, Boxed W (w.heap.size + 1 + 1) 36 v ∧ W.ownsRow w.heap.size 24 1 v k (((L.map valU).take k).map (Value.int .u32)) ∧ ∀ p ∈ L.take k, okU p = true) ∧ (Boxed W w.heap.size 36 (.slice none 0 0) ∧ Boxed W (w.heap.size + 1) 26 (.int .i64 0))) ∧
    ((∃ t, Boxed W (w.heap.size + 1 + 1 + 1) 9 t) ∧ (∃ t, Boxed W (w.heap.size + 1 + 1 + 1 + 1) 9 t) ∧ (∃ t, Boxed W (w.heap.size + 1 + 1 + 1 + 1 + 1) 3 t)) ∧ Below w.heap.size w W
def UnitX (w : World) (L : List (List UInt8)) (c : Code) (k : Nat) (W : World) : Prop := (c = .ret ∧ ¬ ∀ p ∈ L, okU p = true) ∧ Boxed W w.heap.size 36 (.slice none 0 0) ∧ Boxed W (w.heap.size + 1) 26 (.int .i64 15) ∧ Below w.heap.size w W
theorem someBoxed_own {β : Type} (B : Nat) (t : TypeId) : Own (fun (_ : β) W => ∃ v, Boxed W B t v) := fun s X Y row ⟨v, hv⟩ hg hrow => ⟨v, boxed_own (β := β) B t (fun _ => v) s X Y row hv hg hrow⟩
theorem unitI_own (w : World) (L : List (List UInt8)) (B : Nat) (hB : w.heap.size ≤ B) : OwnFrom B (UnitI w L) :=
  OwnFrom.and (OwnFrom.and (Own.from (holdsRow_own w.heap.size (w.heap.size + 1 + 1) 36 24 1 (fun k => k) (fun k => ((L.map valU).take k).map (Value.int .u32)) (fun k _ => ∀ p ∈ L.take k, okU p = true)) _) (OwnFrom.and (Own.from (boxed_own _ _ _) _) (Own.from (boxed_own _ _ _) _)))
    (OwnFrom.and (OwnFrom.and (Own.from (someBoxed_own _ _) _) (OwnFrom.and (Own.from (someBoxed_own _ _) _) (Own.from (someBoxed_own _ _) _))) (ownFrom_below (Nat.le_refl _) hB))
theorem unitX_own (w : World) (L : List (List UInt8)) (c : Code) (B : Nat) (hB : w.heap.size ≤ B) : OwnFrom B (UnitX w L c) :=
  OwnFrom.and (fun _ _ _ _ h _ _ => h) (OwnFrom.and (Own.from (boxed_own _ _ _) _) (OwnFrom.and (Own.from (boxed_own _ _ _) _) (ownFrom_below (Nat.le_refl _) hB)))
theorem unitI_abs (w : World) (L : List (List UInt8)) (k : Nat) (A B : World) (h : UnitI w L k A) (hab : AbS (w.heap.size + 1 + 1 + 1) A B) : UnitI w L k B := by
  obtain ⟨u, rfl⟩ := hab
  obtain ⟨⟨⟨v, hv, hrow, hok⟩, h1, h2⟩, ⟨⟨t3, h3⟩, ⟨t4, h4⟩, t5, h5⟩, hb⟩ := h
  refine ⟨⟨⟨v, hv.other (by omega) u, hrow.kept (grownBy_setCell' A _ u) (.inr (h3.not_row (by decide) hrow).symm), hok⟩, h1.other (by omega) u, h2.other (by omega) u⟩, ⟨⟨u, h3.set u⟩, ⟨t4, h4.other (by omega) u⟩, t5, h5.other (by omega) u⟩, below_set hb (by omega)⟩
theorem unitX_abs (w : World) (L : List (List UInt8)) (c : Code) (k : Nat) (A B : World) (h : UnitX w L c k A) (hab : AbS (w.heap.size + 1 + 1 + 1) A B) : UnitX w L c k B := by
  obtain ⟨u, rfl⟩ := hab
  exact ⟨h.1, h.2.1.other (by omega) u, h.2.2.1.other (by omega) u, below_set h.2.2.2 (by omega)⟩
theorem unit_out (w : World) (L : List (List UInt8)) (Kp : World → World → Prop) (k nn : Nat) (W : World) (a : Act) (h1 : Boxed W w.heap.size 36 (.slice none 0 0)) (h2 : Boxed W (w.heap.size + 1) 26 (.int .i64 0)) (hB : Below w.heap.size w W) (hX : ¬ ∀ p ∈ L, okU p = true) :
    RoundPost Kp (UnitI w L) (UnitX w L) k W .ret a (((W.drewN nn).setCell ⟨w.heap.size, 0, none⟩ (.slice none 0 0)).setCell ⟨w.heap.size + 1, 0, none⟩ (.int .i64 15)) := by
  have k1 : KeepsOthers W (W.drewN nn) := ⟨Nat.le_refl _, fun _ _ h _ => h⟩
  have g1 : Boxed (W.drewN nn) w.heap.size 36 (.slice none 0 0) := h1
  have g2 : Boxed (W.drewN nn) (w.heap.size + 1) 26 (.int .i64 0) := h2
  exact ⟨(k1.trans (KeepsOthers.setCell _ _ _)).trans (KeepsOthers.setCell _ _ _), ⟨rfl, hX⟩, (g1.set _).other (by omega) _, ((g2.other (by omega) _).set _), below_set (below_set (pw_below_drewN hB nn) (Nat.le_refl _)) (by omega)⟩
set_option maxRecDepth 100000 in
theorem unit_end (w X : World) (D : Nat) (hD : w.heap.size + 1 < D) (tmps : Array Value) (v : Value) (e0 : Int) (r : List Int) (ht2 : tmps.getD 2 undef = .pointer (some ⟨w.heap.size, 0, none⟩)) (ht3 : tmps.getD 3 undef = .pointer (some ⟨w.heap.size + 1, 0, none⟩))
    (hK : X.heap[D]? = some (.deferred (some []))) (g1 : Boxed X w.heap.size 36 v) (g2 : Boxed X (w.heap.size + 1) 26 (.int .i64 e0)) (hrow : X.ownsRow w.heap.size 24 1 v r.length (r.map (Value.int .u32))) (hB : Below w.heap.size w X) :
    bodyPostM Fence.wide 5 Tryd.prog Tryd.f35 (fun e W' => ∃ v, e = .returned (.tuple #[v, .int .i64 e0]) ∧ Kd.R (Kd.int .u32) 24 W' w.heap.size (fun _ => True) v r ∧ Below w.heap.size w W') Exit.ret { tmps := tmps, defers := [{ target := .collected D, args := #[] }] } X := by
  refine ⟨by simp, .inl ⟨_, _, rfl, run_takeDeferred hK, ?_⟩⟩
  have k1 : Boxed (X.putObj D (.deferred none)) w.heap.size 36 v := (World.putObj_heap_other (by omega)).trans g1
  have k2 : Boxed (X.putObj D (.deferred none)) (w.heap.size + 1) 26 (.int .i64 e0) := (World.putObj_heap_other (by omega)).trans g2
  have c1 := k1.cell
  have c2 := k2.cell
  have hrow2 := ownsRow_putObj hrow (.deferred none) hK rfl
  refine ⟨_, ?_, v, rfl, Kd.R_of_own (xs := r) hrow2 (fun _ _ => trivial), hB.trans (belowK_b (w := w) (Nat.le_refl _) X D _ _ (by omega) hK rfl rfl)⟩
  have hRR : Kd.R (Kd.int .u32) 24 (X.putObj D (.deferred none)) w.heap.size (fun _ => True) v r := Kd.R_of_own (xs := r) hrow2 (fun _ _ => trivial)
  obtain ⟨A, c, hv⟩ := Kd.R_slice hRR
  subst hv
  rw [Array.getD_eq_getD_getElem?] at ht2 ht3
  simp [results, Tryd.results35, go_sem, ht2, ht3, c1, c2]
set_option maxRecDepth 100000 in
set_option maxHeartbeats 4000000 in
theorem unit_calls (s : ByteArray) (w : World) (hs : s.size ≤ 100000000) :
    Calls Tryd.prog 35 #[.string s] w fun e W' => ∃ v, e = .returned (.tuple #[v, .int .i64 (unitF s).2]) ∧ Kd.R (Kd.int .u32) 24 W' w.heap.size (fun _ => True) v (unitF s).1 ∧ Below w.heap.size w W' := by
  refine (callsIn_wide (n := 5)).1 ?_
  obtain ⟨i0, hi, hz0, hz1, hz2⟩ := info_parts info24i
  obtain ⟨L, hL⟩ : ∃ L, L = cuts 44 s.data.toList := ⟨_, rfl⟩
  have HLl := Aside0.mk (show L.length ≤ 100000001 by
    have := cuts_len 44 s.data.toList
    rw [hL]
    have e : s.data.toList.length = s.size := Array.length_toList
    omega)
  have HLs := Aside0.mk (show ∀ p ∈ L, p.length ≤ 100000000 by
    intro p hp
    have := cuts_size 44 s.data.toList p (hL ▸ hp)
    have e : s.data.toList.length = s.size := Array.length_toList
    omega)
  have HSq := Aside0.mk (show ∀ W0 : World, W0.heap[w.heap.size + 1 + 1 + 1]? = some (.cells #[.string s] 9 (0, 0)) → W0.heap[w.heap.size + 1 + 1 + 1 + 1]? = some (.cells #[.string ⟨#[44]⟩] 9 (0, 0)) → W0.heap[w.heap.size + 1 + 1 + 1 + 1 + 1]? = some (.cells #[.int .i64 0] 3 (0, 0)) →
      SeqL 4 Tryd.prog 92 #[.pointer (some ⟨w.heap.size + 1 + 1 + 1 + 1, 0, none⟩), .pointer (some ⟨w.heap.size + 1 + 1 + 1, 0, none⟩), .pointer (some ⟨w.heap.size + 1 + 1 + 1 + 1 + 1, 0, none⟩)] (AbS (w.heap.size + 1 + 1 + 1)) (KpS (w.heap.size + 1 + 1 + 1) (w.heap.size + 1 + 1 + 1 + 1) (w.heap.size + 1 + 1 + 1 + 1 + 1)) (L.map pieceV) W0 from fun W0 h1 h2 h3 => by
    rw [hL]
    exact split_seq 44 4 (by decide) _ _ _ (by omega) (by omega) s (by omega) W0 h1 h2 h3)
  obtain ⟨R, hR⟩ : ∃ R, R = unitF s := ⟨_, rfl⟩
  rw [← hR]
  have HR := Aside0.mk (show R = if L.all okU = true then (if 4 < L.length then ([], 3) else (L.map valU, 0)) else ([], 15) by rw [hR, hL]; rfl)
  clear hR hL hs
  refine callsIn_of_wp_marks Tryd.func35 rfl trivial ?_ rfl
  simp only [Tryd.ntmps35, List.size_toArray, List.length_cons, List.length_nil, Nat.reduceAdd, Nat.reduceSub, Array.replicate_succ, Array.replicate_zero, List.push_toArray, List.append_toArray, List.nil_append, List.cons_append]
  gi_wp2_with (refine ⟨trivial, ?_⟩; gi_at_call 53; refine (splitSeq_in _ _ _).mono ?_; rintro e w' ⟨rfl, rfl⟩)
  obtain ⟨W0, hW0⟩ : ∃ W0, W0 = (((((w.alloc (.cells #[.slice none 0 0] 36)).alloc (.cells #[.int .i64 0] 26)).alloc (.cells #[.slice none 0 0] 36)).alloc (.cells #[.string s] 9)).alloc (.cells #[.string ⟨#[44]⟩] 9)).alloc (.cells #[.int .i64 0] 3) := ⟨_, rfl⟩
  have b0 : Boxed W0 w.heap.size 36 (.slice none 0 0) := by rw [hW0]; exact (((((Boxed.new w 36 (.slice none 0 0)).alloc _).alloc _).alloc _).alloc _).alloc _
  have b1 : Boxed W0 (w.heap.size + 1) 26 (.int .i64 0) := by
    rw [hW0]
    have h := Boxed.new (w.alloc (.cells #[.slice none 0 0] 36)) 26 (.int .i64 0)
    rw [World.size_alloc] at h
    exact (((h.alloc _).alloc _).alloc _).alloc _
  have b2 : Boxed W0 (w.heap.size + 1 + 1) 36 (.slice none 0 0) := by
    rw [hW0]
    have h := Boxed.new ((w.alloc (.cells #[.slice none 0 0] 36)).alloc (.cells #[.int .i64 0] 26)) 36 (.slice none 0 0)
    rw [World.size_alloc, World.size_alloc] at h
    exact ((h.alloc _).alloc _).alloc _
  have b3 : Boxed W0 (w.heap.size + 1 + 1 + 1) 9 (.string s) := by
    rw [hW0]
    have h := Boxed.new (((w.alloc (.cells #[.slice none 0 0] 36)).alloc (.cells #[.int .i64 0] 26)).alloc (.cells #[.slice none 0 0] 36)) 9 (.string s)
    rw [World.size_alloc, World.size_alloc, World.size_alloc] at h
    exact (h.alloc _).alloc _
  have b4 : Boxed W0 (w.heap.size + 1 + 1 + 1 + 1) 9 (.string ⟨#[44]⟩) := by
    rw [hW0]
    have h := Boxed.new ((((w.alloc (.cells #[.slice none 0 0] 36)).alloc (.cells #[.int .i64 0] 26)).alloc (.cells #[.slice none 0 0] 36)).alloc (.cells #[.string s] 9)) 9 (.string ⟨#[44]⟩)
    rw [World.size_alloc, World.size_alloc, World.size_alloc, World.size_alloc] at h
    exact h.alloc _
  have b5 : Boxed W0 (w.heap.size + 1 + 1 + 1 + 1 + 1) 3 (.int .i64 0) := by
    rw [hW0]
    have h := Boxed.new (((((w.alloc (.cells #[.slice none 0 0] 36)).alloc (.cells #[.int .i64 0] 26)).alloc (.cells #[.slice none 0 0] 36)).alloc (.cells #[.string s] 9)).alloc (.cells #[.string ⟨#[44]⟩] 9)) 3 (.int .i64 0)
    rw [World.size_alloc, World.size_alloc, World.size_alloc, World.size_alloc, World.size_alloc] at h
    exact h
  have hB0 : Below w.heap.size w W0 := by rw [hW0]; exact below_alloc (below_alloc (below_alloc (below_alloc (below_alloc (below_alloc (Below.refl _ _) _) _) _) _) _) _
  have hs0 : W0.heap.size = w.heap.size + 6 := by rw [hW0]; simp
  rw [← hW0]
  clear hW0
  refine wp_rangeL (by omega) (gf := 92) (lb := #[.pointer (some ⟨w.heap.size + 1 + 1 + 1 + 1, 0, none⟩), .pointer (some ⟨w.heap.size + 1 + 1 + 1, 0, none⟩), .pointer (some ⟨w.heap.size + 1 + 1 + 1 + 1 + 1, 0, none⟩)]) rfl (enters_of Tryd.func92 (by kernel_rfl) rfl)
    (HSq.out W0 b3 b4 b5) ?hAb (fun h k => h.trans k) (fun W i o o' hi ho _ _ => ⟨by simp, fun j hj hlt => World.putObj_heap_other (by rcases hj with rfl | rfl | rfl <;> omega)⟩) ?hps
    (UnitI w L) (UnitX w L) (unitI_own w L _ (by omega)) (fun c => unitX_own w L c _ (by omega)) (unitI_abs w L) (unitX_abs w L)
    ⟨⟨⟨_, b2, World.ownsRow_nil _ _ _ _, by simp⟩, b0, b1⟩, ⟨⟨_, b3⟩, ⟨_, b4⟩, _, b5⟩, hB0⟩
    (fun k => { tmps := #[.string s, undef, .pointer (some ⟨w.heap.size, 0, none⟩), .pointer (some ⟨w.heap.size + 1, 0, none⟩), .pointer (some ⟨w.heap.size + 1 + 1, 0, none⟩), .string (pcAt L k), undef, undef, .string s, .func (.func 92) #[] #[.pointer (some ⟨w.heap.size + 1 + 1 + 1 + 1, 0, none⟩), .pointer (some ⟨w.heap.size + 1 + 1 + 1, 0, none⟩), .pointer (some ⟨w.heap.size + 1 + 1 + 1 + 1 + 1, 0, none⟩)], .string (pcAt L k), undef, undef, undef, undef, undef, undef, undef, undef, undef, undef, undef, undef, undef, undef, undef, undef, undef, undef, undef, undef, undef, undef, undef, undef, undef], defers := [] }) ?assign ?body ?done ?stop
  case hAb =>
    rintro A B i o ⟨u, rfl⟩ ho hoc
    obtain ⟨b, hb⟩ : ∃ b : World, b = A.setCell ⟨w.heap.size + 1 + 1 + 1, 0, none⟩ u := ⟨_, rfl⟩
    rw [← hb]
    have := (KeepsOthers.setCell A ⟨w.heap.size + 1 + 1 + 1, 0, none⟩ u).same i o ho hoc
    rw [← hb] at this
    exact this
  case hps =>
    intro x hx
    obtain ⟨p, _, rfl⟩ := List.mem_map.1 hx
    rfl
  case assign =>
    intro l' k hk W K hK
    have hk' : k < L.length := by simpa using hk
    have e : (L.map pieceV)[k] = #[.string (pcAt L k)] := by
      rw [List.getElem_map, pcAt, List.getD_eq_getElem?_getD, List.getElem?_eq_getElem hk']
      rfl
    rw [e]
    gi_wp2
    exact hK
  case body =>
    rintro l' k W hk0 ⟨⟨⟨v, hv, hrow, hok⟩, h1, h2⟩, ⟨⟨t3, h3⟩, ⟨t4, h4⟩, t5, h5⟩, hB⟩
    have hk : k < L.length := by simpa using hk0
    obtain ⟨q, hq⟩ : ∃ q, q = pcAt L k := ⟨_, rfl⟩
    rw [← hq]
    have hqs : q.size ≤ 100000000 := by
      rw [hq, pcAt, bOf_size, List.getD_eq_getElem?_getD, List.getElem?_eq_getElem hk]
      exact HLs.out _ (List.getElem_mem hk)
    have hqL : L[k] = L.getD k [] := by rw [List.getD_eq_getElem?_getD, List.getElem?_eq_getElem hk]; rfl
    have hqe : bOf L[k] = q := by rw [hq, pcAt, hqL]
    obtain ⟨x, hx⟩ : ∃ x, x = (parF q 16).1 := ⟨_, rfl⟩
    obtain ⟨e0, he0⟩ : ∃ e0, e0 = (parF q 16).2 := ⟨_, rfl⟩
    have HP := Aside0.mk (show ∀ X : World, Calls Tryd.prog 54 #[.string q, .int .u32 16] X (fun e w' => e = .returned (.tuple #[.int .u32 x, .int .i64 e0]) ∧ Drawn0 X w') from fun X =>
      digit_Parse.calls 100000050 q 16 x e0 X (by rw [parse_eq _ _ _ (by omega) (by omega), hx, he0]))
    have hne : ¬ okU L[k] = true → ¬ ∀ p ∈ L, okU p = true := fun h h2 => h (h2 _ (List.getElem_mem hk))
    have hokk : okU L[k] = (decide (e0 = 0) && !decide (bt q 0 = 45) && decide (q.size ≤ 8)) := by
      unfold okU
      rw [hqe, ← he0, ← hqe, bOf_size]
    by_cases hz : e0 = 0
    · have hpos : 0 < q.size := parF_pos (by rw [← he0, hz])
      have p1 : (0 < (q.size : Int)) = True := eq_true (by omega)
      have hbt := bt_idx q hpos
      subst hz
      by_cases h45 : bt q 0 = 45
      · have hX := hne (by rw [hokk, h45]; simp)
        have d2 : (((q[0]'hpos).toNat : Int) == 45) = true := by rw [hbt, h45]; rfl
        have HX := Aside0.mk hX
        clear hx he0 hokk hne hqe hqL hqs hq hk hs0 hok hX hbt
        have hc1 := h1.cell
        have hf1 := h1.frozen
        have hc2 := h2.cell
        have hf2 := h2.frozen
        gi_wp2_with (refine ⟨trivial, ?_⟩; gi_at_call 54; refine (CallsIn.inRound l' (callsIn_wide.2 (HP.out _))).mono ?_; rintro e w' ⟨rfl, hd⟩; obtain ⟨⟨nn, rfl⟩⟩ := hd)
        exact unit_out w L _ _ nn W _ h1 h2 hB HX.out
      · have d2 : (((q[0]'hpos).toNat : Int) == 45) = false := by rw [hbt]; exact beq_false_of_ne h45
        by_cases h8 : q.size ≤ 8
        · have d3 : decide ((8 : Int) < (q.size : Int)) = false := decide_eq_false (by omega)
          have hokt : okU L[k] = true := by rw [hokk]; simp [h45, h8]
          have HTk := Aside0.mk (show (L.map valU).take (k + 1) = (L.map valU).take k ++ [x] by
            rw [List.take_succ_eq_append_getElem (by rw [List.length_map]; exact hk), List.getElem_map]
            congr 2
            unfold valU
            rw [hqe, hx])
          have HOk := Aside0.mk (show ∀ p ∈ L.take (k + 1), okU p = true by
            intro p hp
            rw [List.take_succ_eq_append_getElem hk] at hp
            rcases List.mem_append.1 hp with hp | hp
            · exact hok p hp
            · rw [List.mem_singleton.1 hp]; exact hokt)
          have HK := Aside0.mk (show k ≤ 100000001 from Nat.le_trans (Nat.le_of_lt hk) HLl.out)
          have HTl := Aside0.mk (show (((L.map valU).take k).map (Value.int .u32)).length = k by rw [List.length_map, List.length_take, List.length_map]; omega)
          clear hx he0 hokk hne hqe hqL hqs hq hk hs0 hok hbt h45 h8 hokt
          gi_wp2_with (first
            | (refine ⟨trivial, ?_⟩; gi_at_call 54; refine (CallsIn.inRound l' (callsIn_wide.2 (HP.out _))).mono ?_; rintro e w' ⟨rfl, hd⟩; obtain ⟨⟨nn, rfl⟩⟩ := hd; have hvX : Boxed (W.drewN nn) (w.heap.size + 1 + 1) 36 v := hv; have hrowX : (W.drewN nn).ownsRow w.heap.size 24 1 v k (((L.map valU).take k).map (Value.int .u32)) := hrow; have hBX : Below w.heap.size w (W.drewN nn) := pw_below_drewN hB nn; obtain ⟨X, hX⟩ : ∃ X, X = W.drewN nn := ⟨_, rfl⟩; have HXW := Aside0.mk hX; rw [← hX] at hvX hrowX hBX ⊢; clear hX; have hcX := hvX.cell; clear hv hrow hB)
            | (gi_at_builtin; refine wpListIn_append_own _ rfl _ _ 36 rfl w.heap.size 24 i0 (.int .u32 0) 1 4 Tryd.underlying36 hi hz0 hz1 hz2 rfl (by decide) _ _ _ rfl (hrowX.alloc _) ⟨X.heap.size, 0, none⟩ 1 1 [.int .u32 x] rfl rfl (cell_one_new _ _ _) (by simp [Value.oneCell']) (by have := HK.out; unfold maxLen; omega) (by have := HK.out; omega) (by have := hBX.size; simp; omega) ?_; intro v' w1 hown' hgrow _; obtain ⟨g', cap', rfl⟩ := ownsRow_succ hown'; obtain ⟨hv1, hv2, hr2, hk2, hb2⟩ := hvX.appended (by decide) hrowX hBX.size (by omega) hown' hgrow; have hc1 := hv1.cell; have hf1 := hv1.frozen))
          have hXW := HXW.out
          subst hXW
          have k1 : KeepsOthers W (W.drewN nn) := ⟨Nat.le_refl _, fun _ _ h _ => h⟩
          have hkk := k1.trans hk2
          have hBk := hBX.trans hb2
          have box : ∀ {B : Nat} {t : TypeId} {u : Value}, Boxed W B t u → 24 ≠ t → w.heap.size + 1 + 1 ≠ B → Boxed (w1.setCell ⟨w.heap.size + 1 + 1, 0, none⟩ (.slice (some ⟨g', 0, none⟩) (k + 1) cap')) B t u := fun {B t u} h ht hB2 => by
            have h' : Boxed (W.drewN nn) B t u := h
            exact ((h'.alloc _).kept hgrow (h'.not_row (fun e => ht e.symm) hrowX)).other (fun e => hB2 e.symm) _
          have f3 := box h3 (by decide) (by omega)
          have f4 := box h4 (by decide) (by omega)
          have f5 := box h5 (by decide) (by omega)
          refine ⟨hkk, ⟨hkk.size, fun i hi hl => ?_⟩, ⟨⟨_, hv2, ?_, HOk.out⟩, box h1 (by decide) (by omega), box h2 (by decide) (by omega)⟩, ⟨⟨t3, f3⟩, ⟨t4, f4⟩, t5, f5⟩, hBk⟩
          · rcases hi with rfl | rfl | rfl
            · exact (show _ = _ from f3).trans (show _ = _ from h3).symm
            · exact (show _ = _ from f4).trans (show _ = _ from h4).symm
            · exact (show _ = _ from f5).trans (show _ = _ from h5).symm
          · rw [HTk.out, List.map_append]
            exact hr2
        · have hX := hne (by rw [hokk]; simp [h8])
          have d3 : decide ((8 : Int) < (q.size : Int)) = true := decide_eq_true (by omega)
          have HX := Aside0.mk hX
          clear hx he0 hokk hne hqe hqL hqs hq hk hs0 hok hX hbt h45 h8
          have hc1 := h1.cell
          have hf1 := h1.frozen
          have hc2 := h2.cell
          have hf2 := h2.frozen
          gi_wp2_with (refine ⟨trivial, ?_⟩; gi_at_call 54; refine (CallsIn.inRound l' (callsIn_wide.2 (HP.out _))).mono ?_; rintro e w' ⟨rfl, hd⟩; obtain ⟨⟨nn, rfl⟩⟩ := hd)
          exact unit_out w L _ _ nn W _ h1 h2 hB HX.out
    · have hX := hne (by rw [hokk]; simp [hz])
      have d1 : (e0 != 0) = true := by simp [hz]
      have HX := Aside0.mk hX
      clear hx he0 hokk hne hqe hqL hqs hq hk hs0 hok hX hz
      have hc1 := h1.cell
      have hf1 := h1.frozen
      have hc2 := h2.cell
      have hf2 := h2.frozen
      gi_wp2_with (refine ⟨trivial, ?_⟩; gi_at_call 54; refine (CallsIn.inRound l' (callsIn_wide.2 (HP.out _))).mono ?_; rintro e w' ⟨rfl, hd⟩; obtain ⟨⟨nn, rfl⟩⟩ := hd)
      exact unit_out w L _ _ nn W _ h1 h2 hB HX.out
  case done =>
    rintro D W hD ⟨⟨⟨v, hv, hrow, hok⟩, h1, h2⟩, _, hB⟩ hK
    have hLn : (L.map pieceV).length = L.length := List.length_map _
    rw [hLn] at hrow hok
    rw [List.take_of_length_le (by rw [List.length_map]; exact Nat.le_refl _)] at hrow
    rw [List.take_of_length_le (Nat.le_refl _)] at hok
    have hRx : Kd.R (Kd.int .u32) 24 W w.heap.size (fun _ => True) v (L.map valU) := Kd.R_of_own (xs := L.map valU) (by rw [List.length_map]; exact hrow) (fun _ _ => trivial)
    obtain ⟨A, c, rfl⟩ := Kd.R_slice hRx
    have hc := hv.cell
    have hc1 := h1.cell
    have hf1 := h1.frozen
    have hc2 := h2.cell
    have hf2 := h2.frozen
    have hall : L.all okU = true := List.all_eq_true.2 hok
    have hLm : (L.map valU).length = L.length := List.length_map _
    rw [hLm] at hv hc hRx
    have hR := HR.out
    rw [if_pos hall] at hR
    clear hok hall
    by_cases h4 : 4 < L.length
    · rw [if_pos h4] at hR
      subst hR
      have d4 : decide ((4 : Int) < (L.length : Int)) = true := decide_eq_true (by omega)
      gi_wp2
      exact unit_end w _ D (by omega) _ (.slice none 0 0) 3 [] rfl rfl (((KeepsOthers.setCell _ _ _).trans (KeepsOthers.setCell _ _ _)).same D _ hK rfl) ((h1.set _).other (by omega) _) ((h2.other (by omega) _).set _) (World.ownsRow_nil _ _ _ _) (below_set (below_set hB (Nat.le_refl _)) (by omega))
    · rw [if_neg h4] at hR
      subst hR
      have d4 : decide ((4 : Int) < (L.length : Int)) = false := decide_eq_false (by omega)
      have hne1 := h1.not_row (by decide) hrow
      have hne2 := h2.not_row (by decide) hrow
      rw [hLm] at hne1 hne2
      gi_wp2
      have e : (L.map valU).length = L.length := hLm
      refine unit_end w _ D (by omega) _ (.slice A L.length c) 0 (L.map valU) rfl rfl (((KeepsOthers.setCell _ _ _).trans (KeepsOthers.setCell _ _ _)).same D _ hK rfl) ((h1.set _).other (by omega) _) ((h2.other (by omega) _).set _) ?_ (below_set (below_set hB (Nat.le_refl _)) (by omega))
      rw [hLm] at hrow ⊢
      exact (hrow.kept (grownBy_setCell' _ _ _) (.inr hne1.symm)).kept (grownBy_setCell' _ _ _) (.inr hne2.symm)
  case stop =>
    rintro D c k W hD hkk ⟨⟨rfl, hX⟩, h1, h2, hB⟩ hK
    have hR := HR.out
    rw [if_neg (fun h => hX (List.all_eq_true.1 h))] at hR
    subst hR
    have hc1 := h1.cell
    have hc2 := h2.cell
    gi_wp2
    exact unit_end w _ D (by omega) _ (.slice none 0 0) 15 [] rfl rfl hK h1 h2 (World.ownsRow_nil _ _ _ _) hB
def prop_ParseUnit.f (s : ByteArray) : Option (List Int × Int) := if s.size ≤ 100000000 then some (unitF s) else none
theorem prop_ParseUnit.calls (a0 : ByteArray) (r1 : List Int) (r2 : Int) (w : World) (h : prop_ParseUnit.f a0 = some (r1, r2)) :
    Calls Tryd.prog 35 #[.string a0] w fun e w' => ∃ v0_ : Value, e = .returned (.tuple #[v0_, .int .i64 r2]) ∧ Kd.R (Kd.int .u32) 24 w' w.heap.size (fun _ => True) v0_ r1 ∧ Below w.heap.size w w' := by
  unfold prop_ParseUnit.f at h
  split at h
  · rename_i hs
    have e := Option.some.inj h
    have h2 := unit_calls a0 w hs
    rw [e] at h2
    exact h2
  · cases h
end Go.Proofs.YtlhnaplmphdhlaaDoor.Q
end
section
namespace Go.Proofs.YtlhnaplmphdhlaaDoor.Q
open Go.RowKit Go.Proofs.YtlhnaplmphdhlaaDoorW.PrintWords Go.Proofs.YtlhnaplmphdhlaaDoorW.PrintLast
def strings_IndexByte.f (a0 : ByteArray) (a1 : Int) : Option Int := some (Lib.indexByte a0.data.toList a1.toNat.toUInt8)
theorem strings_IndexByte.calls (a0 : ByteArray) (a1 : Int) (r : Int) (w : World) (h : strings_IndexByte.f a0 a1 = some r) : Calls Tryd.prog 45 #[.string a0, .int .u8 a1] w fun e w' => e = .returned (.int .i64 r) ∧ Below w.heap.size w w' := by
  obtain rfl := Option.some.inj h
  refine (Tryd.strings_IndexByte a0 a1 w).mono ?_
  rintro e w' ⟨rfl, rfl⟩
  exact ⟨rfl, Below.refl _ _⟩
end Go.Proofs.YtlhnaplmphdhlaaDoor.Q
end
section
set_option linter.unusedSimpArgs false
set_option linter.unusedVariables false
namespace Go.Proofs.YtlhnaplmphdhlaaDoor.Q
open Go.RowKit Go.Proofs.YtlhnaplmphdhlaaDoorW.PrintWords Go.Proofs.YtlhnaplmphdhlaaDoorW.PrintLast
def encF (s : ByteArray) : List Int × Int := if 0 ≤ Lib.indexByte s.data.toList 0 then ([], 15) else if 256 ≤ s.size then ([], 3) else (bytesOf s ++ [0], 0)
theorem info5i : (Tryd.prog.info? 5).map (fun i => (i.zero, i.size, i.bytes)) = some (some (.int .u8 0), 1, 1) := by kernel_rfl
theorem bw_size (W : World) (s : ByteArray) : (Lib.bytesCells W 5 s).size = grownCap W s.size 0 5 := by
  have h := grownCap_ge W s.size 0 5
  unfold Lib.bytesCells
  rw [Array.size_append, Array.size_map, Array.size_replicate]
  show s.data.size + _ = _
  have : s.data.size = s.size := rfl
  omega
theorem bw_room (W : World) (s : ByteArray) (h : s.size + 1 ≤ grownCap W s.size 0 5) : ((Lib.bytesWorld W 5 s).cell? ⟨W.heap.size, s.size, none⟩).isSome = true ∧ (Lib.bytesWorld W 5 s).frozen? ⟨W.heap.size, s.size, none⟩ = false := by
  have hb := Lib.bytesWorld_at_new W 5 s
  have hs := bw_size W s
  constructor
  · rw [cell_of_row _ _ _ _ _ _ hb, Array.getElem?_eq_getElem (by omega)]
    rfl
  · unfold World.frozen?
    simp only [hb]
    rw [hs]
    simp
    omega
theorem bw_C (W : World) (s : ByteArray) (hs : s.size < 256) (h : s.size + 1 ≤ grownCap W s.size 0 5) :
    Kd.C (Kd.int .u8) (((Lib.bytesWorld W 5 s).alloc (.cells #[.int .u8 0] 5)).setCell ⟨W.heap.size, s.size, none⟩ (.int .u8 0)) (some ⟨W.heap.size, 0, none⟩) (s.size + 1) (bytesOf s ++ [0]) := by
  have hr := bw_room W s h
  have hbs := Lib.bytesWorld_size W 5 s
  have hlen : (bytesOf s ++ [0]).length = s.size + 1 := by rw [List.length_append, bytesOf_length]; rfl
  refine Kd.C_of_reads (d := (0 : Int)) ⟨hlen, by omega, fun _ => ⟨_, rfl, fun j hj => ?_⟩⟩
  rw [add_plain]
  have hal : ∀ i, ((Lib.bytesWorld W 5 s).alloc (.cells #[.int .u8 0] 5)).cell? ⟨W.heap.size, i, none⟩ = (Lib.bytesWorld W 5 s).cell? ⟨W.heap.size, i, none⟩ := fun i => (below_alloc (Below.refl (Lib.bytesWorld W 5 s).heap.size (Lib.bytesWorld W 5 s)) _).cell (p := ⟨W.heap.size, i, none⟩) (by show W.heap.size < _; omega)
  by_cases hj2 : j = s.size
  · subst hj2
    rw [World.cell?_setCell_same' _ _ _ (by rw [hal]; exact hr.1)]
    rw [List.getD_eq_getElem?_getD, List.getElem?_append_right (by rw [bytesOf_length]; exact Nat.le_refl _), bytesOf_length, Nat.sub_self]
    rfl
  · rw [World.cell?_setCell_other (h := by intro e; injection e with _ e2 _; exact hj2 e2.symm), hal, Lib.bytesWorld_cell W 5 s j (by omega)]
    have h' : j < s.data.toList.length := by rw [data_length]; omega
    rw [show List.getD (bytesOf s ++ [0] : List Int) j 0 = (bytesOf s).getD j 0 from by rw [List.getD_eq_getElem?_getD, List.getElem?_append_left (by rw [bytesOf_length]; omega), ← List.getD_eq_getElem?_getD]]
    simp [bytesOf, List.getD_eq_getElem?_getD, List.getElem?_eq_getElem h']
set_option maxRecDepth 100000 in
set_option maxHeartbeats 2000000 in
theorem enc_calls (s : ByteArray) (w : World) : Calls Tryd.prog 17 #[.string s] w fun e w' => ∃ A c, e = .returned (.tuple #[.slice A (encF s).1.length c, .int .i64 (encF s).2]) ∧ (encF s).1.length ≤ c ∧ Kd.C (Kd.int .u8) w' A (encF s).1.length (encF s).1 ∧ Below w.heap.size w w' := by
  obtain ⟨x, hx⟩ : ∃ x, x = Lib.indexByte s.data.toList 0 := ⟨_, rfl⟩
  have HI := Aside0.mk (show ∀ W : World, Calls Tryd.prog 45 #[.string s, .int .u8 0] W (fun e w' => e = .returned (.int .i64 x) ∧ Below W.heap.size W w') from fun W => strings_IndexByte.calls s 0 x W (by rw [hx]; rfl))
  obtain ⟨R, hR⟩ : ∃ R, R = encF s := ⟨_, rfl⟩
  rw [← hR]
  unfold encF at hR
  rw [← hx] at hR
  clear hx
  by_cases h0 : 0 ≤ x
  · rw [if_pos h0] at hR
    subst hR
    have d0 : decide (0 ≤ x) = true := decide_eq_true h0
    clear h0
    go_enter Tryd.func17, Tryd.ntmps17
    go_wp2_with (go_at_call 45; (with_reducible refine (HI.out _).mono ?_); rintro e w7 ⟨rfl, hb⟩; have HB := Aside0.mk hb; clear hb)
    go_ret2
    exact ⟨none, 0, rfl, Nat.le_refl _, Kd.C_nil _ _, HB.out⟩
  · rw [if_neg h0] at hR
    have d0 : decide (0 ≤ x) = false := decide_eq_false h0
    clear h0
    by_cases h1 : 256 ≤ s.size
    · rw [if_pos h1] at hR
      subst hR
      have d1 : decide ((256 : Int) ≤ (s.size : Int)) = true := decide_eq_true (by omega)
      clear h1
      go_enter Tryd.func17, Tryd.ntmps17
      go_wp2_with (go_at_call 45; (with_reducible refine (HI.out _).mono ?_); rintro e w7 ⟨rfl, hb⟩; have HB := Aside0.mk hb; clear hb)
      go_ret2
      exact ⟨none, 0, rfl, Nat.le_refl _, Kd.C_nil _ _, HB.out⟩
    · rw [if_neg h1] at hR
      subst hR
      have d1 : decide ((256 : Int) ≤ (s.size : Int)) = false := decide_eq_false (by omega)
      have kb := fun W => print_bytes (P := Tryd.prog) 9 25 5 Tryd.underlying9 Tryd.underlying25 Tryd.underlying5 s W
      have H1 := Aside0.mk h1
      clear h1
      go_enter Tryd.func17, Tryd.ntmps17
      obtain ⟨i0, hi, hz0, hz1, hz2⟩ := info_parts info5i
      have HSz := Aside0.mk (show s.size < 256 by have := H1.out; omega)
      have HLn := Aside0.mk (show (bytesOf s ++ [0]).length = s.size + 1 by rw [List.length_append, bytesOf_length]; rfl)
      go_wp2_with (first
        | (go_at_call 45; (with_reducible refine (HI.out _).mono ?_); rintro e w7 ⟨rfl, hb⟩; have HB := Aside0.mk hb; clear hb)
        | (at_builtin; refine wpList_append_arg ((Lib.bytesWorld w7 5 s).alloc (.cells #[.int .u8 0] 5)) rfl (.tmp 13) (.tmp 14) 25 rfl 5 i0 (.int .u8 0) 1 1 Tryd.underlying25 hi hz0 hz1 hz2 rfl (by decide) w7.heap.size 0 s.size (grownCap w7 s.size 0 5) ((bytesOf s).map (Value.int .u8)) rfl ?a1 ?a2 ⟨(Lib.bytesWorld w7 5 s).heap.size, 0, none⟩ 1 1 [.int .u8 0] rfl rfl ?a3 (by simp [Value.oneCell']) ?a4 ?a5 ?a6 ?a7 ?a8))
      case a1 => rw [List.length_map, bytesOf_length, Nat.mul_one]
      case a2 =>
        intro j u hj
        rw [Nat.zero_add]
        obtain ⟨hl, hu⟩ := List.getElem?_eq_some_iff.1 hj
        rw [List.length_map, bytesOf_length] at hl
        rw [show ((Lib.bytesWorld w7 5 s).alloc (.cells #[.int .u8 0] 5)).cell? ⟨w7.heap.size, j, none⟩ = (Lib.bytesWorld w7 5 s).cell? ⟨w7.heap.size, j, none⟩ from (below_alloc (Below.refl (Lib.bytesWorld w7 5 s).heap.size (Lib.bytesWorld w7 5 s)) _).cell (by show w7.heap.size < _; rw [Lib.bytesWorld_size]; omega), Lib.bytesWorld_cell w7 5 s j hl, ← hu]
        have h' : j < s.data.toList.length := by rw [data_length]; exact hl
        simp [bytesOf, List.getD_eq_getElem?_getD, List.getElem?_eq_getElem h']
      case a3 => exact cell_one_new _ _ _
      case a4 =>
        intro hr j hj
        obtain rfl : j = 0 := by simpa using hj
        have h2 := bw_room w7 s hr
        rw [show 0 + s.size * 1 + 0 = s.size by omega, show ((Lib.bytesWorld w7 5 s).alloc (.cells #[.int .u8 0] 5)).cell? ⟨w7.heap.size, s.size, none⟩ = (Lib.bytesWorld w7 5 s).cell? ⟨w7.heap.size, s.size, none⟩ from (below_alloc (Below.refl (Lib.bytesWorld w7 5 s).heap.size (Lib.bytesWorld w7 5 s)) _).cell (by show w7.heap.size < _; rw [Lib.bytesWorld_size]; omega)]
        refine ⟨h2.1, ?_⟩
        rw [← h2.2]
        exact (below_alloc (Below.refl (Lib.bytesWorld w7 5 s).heap.size (Lib.bytesWorld w7 5 s)) _).frozen (p := ⟨w7.heap.size, s.size, none⟩) (by show w7.heap.size < _; rw [Lib.bytesWorld_size]; omega)
      case a5 => have := HSz.out; unfold maxLen; omega
      case a6 => have := HSz.out; omega
      case a7 =>
        intro hr
        have hC := bw_C w7 s HSz.out hr
        have hW : ((Lib.bytesWorld w7 5 s).alloc (.cells #[.int .u8 0] 5)).setCells w7.heap.size s.size [.int .u8 0] = ((Lib.bytesWorld w7 5 s).alloc (.cells #[.int .u8 0] 5)).setCell ⟨w7.heap.size, s.size, none⟩ (.int .u8 0) := rfl
        rw [hW]
        have HC := Aside0.mk hC
        have HBE := Aside0.mk (show Below w.heap.size w (((Lib.bytesWorld w7 5 s).alloc (.cells #[.int .u8 0] 5)).setCell ⟨w7.heap.size, s.size, none⟩ (.int .u8 0)) from (below_alloc (bytes_below HB.out HB.out.size 5 s) _).setCell (p := ⟨w7.heap.size, s.size, none⟩) HB.out.size _)
        clear hC hW
        go_wp2
        go_ret2
        exact ⟨some ⟨w7.heap.size, 0, none⟩, grownCap w7 s.size 0 5, by rw [HLn.out]; rfl, by rw [HLn.out]; exact hr, by rw [HLn.out]; exact HC.out, HBE.out⟩
      case a8 =>
        intro hr v' w' hown hg
        have hBW : Below w.heap.size w ((Lib.bytesWorld w7 5 s).alloc (.cells #[.int .u8 0] 5)) := below_alloc (bytes_below HB.out HB.out.size 5 s) _
        have hR : Kd.R (Kd.int .u8) 5 w' ((Lib.bytesWorld w7 5 s).heap.size + 1) (fun _ => True) v' (bytesOf s ++ [0]) := Kd.R_of_own (xs := bytesOf s ++ [0]) (by rw [HLn.out, encs, List.map_append]; exact hown) (fun _ _ => trivial)
        have hBE : Below w.heap.size w w' := pw_below_grown hBW _ hBW.size hg (fun k e => by cases e)
        obtain ⟨A, c, rfl, hc, hC⟩ := Kd.R_reads hR
        have HC := Aside0.mk hC
        have HCC := Aside0.mk hc
        have HBE := Aside0.mk hBE
        clear hR hBE hBW hown hg hC hc
        go_wp2
        go_ret2
        exact ⟨A, c, rfl, HCC.out, HC.out, HBE.out⟩
end Go.Proofs.YtlhnaplmphdhlaaDoor.Q
end
section
set_option linter.unusedSimpArgs false
set_option linter.unusedVariables false
namespace Go.Proofs.YtlhnaplmphdhlaaDoor.Q
open Go.RowKit Go.Proofs.YtlhnaplmphdhlaaDoorW.PrintWords Go.Proofs.YtlhnaplmphdhlaaDoorW.PrintLast
theorem enc_zero {s : ByteArray} {i : Nat} (h : i < s.size) (h0 : (s[i]'h).toNat = 0) : 0 ≤ Lib.indexByte s.data.toList 0 := by
  have hge := Lib.indexByte_ge s.data.toList 0
  by_cases hx : Lib.indexByte s.data.toList 0 = -1
  · exfalso
    have h2 := Lib.indexByte_none hx i
    refine h2 ?_
    have hl : i < s.data.toList.length := by rw [data_length]; exact h
    rw [List.getElem?_eq_getElem hl]
    congr 1
    apply UInt8.toNat_inj.1
    exact h0
  · omega
theorem enc_none {s : ByteArray} (h : ∀ i, (hi : i < s.size) → (s[i]'hi).toNat ≠ 0) : ¬ 0 ≤ Lib.indexByte s.data.toList 0 := by
  intro h1
  obtain ⟨o, ho⟩ := Int.eq_ofNat_of_zero_le h1
  have h2 := (Lib.indexByte_some ho).1
  obtain ⟨hl, he⟩ := List.getElem?_eq_some_iff.1 h2
  have hl' : o < s.size := by rwa [data_length] at hl
  refine h o hl' ?_
  have e : s[o]'hl' = s.data.toList[o]'hl := rfl
  rw [e, he]
  rfl
set_option maxRecDepth 100000 in
set_option maxHeartbeats 4000000 in
theorem refenc_calls (s : ByteArray) (w : World) (hs : s.size ≤ 140737488351232) : Calls Tryd.prog 18 #[.string s] w fun e w' => ∃ v, e = .returned (.tuple #[v, .int .i64 (encF s).2]) ∧ Kd.R (Kd.int .u8) 5 w' w.heap.size (fun _ => True) v (encF s).1 ∧ Below w.heap.size w w' := by
  obtain ⟨R, hR⟩ : ∃ R, R = encF s := ⟨_, rfl⟩
  rw [← hR]
  have HR := Aside0.mk hR
  clear hR
  go_enter Tryd.func18, Tryd.ntmps18
  go_wp2
  go_loop [4] (fun v => ∃ i : Nat, i ≤ s.size ∧ v = .int .i64 i ∧ Aside0 (∀ j, (hj : j < s.size) → j < i → (s[j]'hj).toNat ≠ 0)) (fun v => s.size - (intOf v).toNat)
  case atStart => exact ⟨0, Nat.zero_le _, rfl, ⟨fun j _ h => absurd h (Nat.not_lt_zero _)⟩⟩
  case round =>
    obtain ⟨i, hi, rfl, HZ⟩ := hrel
    by_cases hlt : i < s.size
    · by_cases h0 : (s[i]'hlt).toNat = 0
      · have hR := HR.out
        unfold encF at hR
        rw [if_pos (enc_zero hlt h0)] at hR
        subst hR
        have d0 : (((s[i]'hlt).toNat : Int) == 0) = true := by rw [h0]; rfl
        clear h0
        go_wp2
        go_ret2
        exact ⟨_, rfl, Kd.R_nil _ _ _ _ _, Below.refl _ _⟩
      · have d0 : (((s[i]'hlt).toNat : Int) == 0) = false := beq_false_of_ne (by omega)
        have HZ2 := Aside0.mk (show ∀ j, (hj : j < s.size) → j < i + 1 → (s[j]'hj).toNat ≠ 0 from fun j hj h => by
          rcases Nat.lt_or_ge j i with h1 | h1
          · exact HZ.out j hj h1
          · obtain rfl : j = i := by omega
            exact h0)
        clear h0 HZ
        go_wp2
        go_round
        case rel => exact ⟨i + 1, by omega, by go_num, HZ2⟩
        case measure => simp [intOf]; omega
    · obtain rfl : i = s.size := by omega
      have hR := HR.out
      unfold encF at hR
      rw [if_neg (enc_none fun j hj => HZ.out j hj hj)] at hR
      by_cases h1 : 256 ≤ s.size
      · rw [if_pos h1] at hR
        subst hR
        have d1 : decide ((256 : Int) ≤ (s.size : Int)) = true := decide_eq_true (by omega)
        clear hs hi h1
        go_wp2
        go_ret2
        exact ⟨_, rfl, Kd.R_nil _ _ _ _ _, Below.refl _ _⟩
      · rw [if_neg h1] at hR
        subst hR
        have d1 : decide ((256 : Int) ≤ (s.size : Int)) = false := decide_eq_false (by omega)
        have HSz := Aside0.mk (show s.size < 256 by omega)
        obtain ⟨i0, hi, hz0, hz1, hz2⟩ := info_parts info5i
        clear hs hlt h1
        go_wp2_with (first
          | (at_builtin; refine print_append_str (w0 := w) w.heap.size rfl (.tmp 19) (.tmp 20) 25 9 5 rfl Tryd.underlying25 Tryd.underlying9 info5 (.slice none 0 0) ([] : List Int) s rfl rfl (World.ownsRow_nil _ _ _ _) (Below.refl _ _) (Nat.le_refl _) (by have := HSz.out; simp; omega) ?_; intro v2 w2 ho0 hb hg; have HO2 := Aside0.mk (show Kd.R (Kd.int .u8) 5 w2 w.heap.size (fun _ => True) v2 ([] ++ bytesOf s) from Kd.R_of_own (h1 := fun _ => rfl) (ok := fun _ => True) ho0 (fun _ _ => trivial)); have HB2 := Aside0.mk hb; clear ho0 hb hg)
          | ((with_reducible refine gate_builtin (b := .append) (xs := #[.tmp 22, .tmp 23]) rfl ?_); at_builtin; refine Kd.R_append (Kd.int .u8) (w0 := w) w.heap.size rfl (.tmp 22) (.tmp 23) 25 5 (.int .u8 0) 1 rfl Tryd.underlying25 info5 rfl (by decide) (by omega) v2 ([] ++ bytesOf s) 0 [.int .u8 0] (fun _ => True) (fun _ => False) rfl rfl rfl (fun _ hk => hk.elim) (fun _ _ => trivial) HO2.out HB2.out (below_size HB2.out) (by have := HSz.out; rw [List.nil_append, bytesOf_length]; omega) ?_; intro v3 w3 ho hb hg hat; have HO3 := Aside0.mk ho; have HB3 := Aside0.mk hb; clear ho hb hg hat))
        go_ret2
        exact ⟨_, rfl, HO3.out, HB3.out⟩
end Go.Proofs.YtlhnaplmphdhlaaDoor.Q
end
section
namespace Go.Proofs.YtlhnaplmphdhlaaDoor.Q
open Go.RowKit Go.Proofs.YtlhnaplmphdhlaaDoorW.PrintWords Go.Proofs.YtlhnaplmphdhlaaDoorW.PrintLast Go.Proofs.YtlhnaplmphdhlaaDoorW.PrintMore
set_option linter.unusedVariables false
set_option linter.unusedSimpArgs false

attribute [local go_sem] max2_int min2_int max_two min_two max_three min_three max_four min_four
/-! ### prop_Named: function 15 -/
mutual
def prop_Named.j0 : Nat → ByteArray → Bool → Option (Bool)
  | 0, _, _ => none
  | k + 1, x0, x11 => if x11 = true then (some false) else (prop_Named.l0 k x0 (x0.size : Int) 0)
def prop_Named.l0 : Nat → ByteArray → Int → Int → Option (Bool)
  | 0, _, _, _ => none
  | k + 1, x0, x13, x14 => if x14 < x13 then (if 0 ≤ x14 then (if x14 < (x0.size : Int) then (if (bt x0 x14) ≤ 32 then (prop_Named.j2 k x0 (bt x0 x14) x13 x14 true) else (if (bt x0 x14) > 126 then (prop_Named.j2 k x0 (bt x0 x14) x13 x14 true) else (if (bt x0 x14) ≥ 65 then (prop_Named.j2 k x0 (bt x0 x14) x13 x14 (decide ((bt x0 x14) ≤ 90))) else (prop_Named.j2 k x0 (bt x0 x14) x13 x14 false)))) else (none)) else (none)) else (some true)
def prop_Named.j2 : Nat → ByteArray → Int → Int → Int → Bool → Option (Bool)
  | 0, _, _, _, _, _ => none
  | k + 1, x0, x4, x13, x14, x20 => if x20 = true then (some false) else ((strings_IndexByte.f (⟨#[47, 92, 58, 91, 93, 64]⟩ : ByteArray) x4).bind fun t16001 => (if t16001 ≥ 0 then (some false) else (prop_Named.l0 k x0 x13 (wrap64 (x14 + 1)))))
end
def prop_Named.f (k : Nat) (a0 : ByteArray) : Option (Bool) := if a0.toList = ([] : List UInt8) then (prop_Named.j0 k a0 true) else (prop_Named.j0 k a0 (decide ((a0.size : Int) > 31)))
theorem prop_Named.mono_l : ∀ k, (∀ y0 y1, LeO (prop_Named.j0 k y0 y1) (prop_Named.j0 (k + 1) y0 y1)) ∧ (∀ y0 y1 y2, LeO (prop_Named.l0 k y0 y1 y2) (prop_Named.l0 (k + 1) y0 y1 y2)) ∧ (∀ y0 y1 y2 y3 y4, LeO (prop_Named.j2 k y0 y1 y2 y3 y4) (prop_Named.j2 (k + 1) y0 y1 y2 y3 y4))
  | 0 => ⟨fun _ _ r h => by simp [prop_Named.j0] at h, fun _ _ _ r h => by simp [prop_Named.l0] at h, fun _ _ _ _ _ r h => by simp [prop_Named.j2] at h⟩
  | k + 1 => by
    obtain ⟨ih0, ih1, ih2⟩ := prop_Named.mono_l k
    refine ⟨?_, ?_, ?_⟩
    · intro y0 y1
      unfold prop_Named.j0
      repeat' first
      | (with_reducible exact ih0 _ _)
      | (with_reducible exact ih1 _ _ _)
      | (with_reducible exact ih2 _ _ _ _ _)
      | (with_reducible exact LeO.refl _)
      | (with_reducible exact LeO.none _)
      | (with_reducible refine LeO.ite ?_ ?_)
      | (with_reducible refine LeO.bind ?_ (fun _ => ?_))
      | exact ih0 _ _
      | exact ih1 _ _ _
      | exact ih2 _ _ _ _ _
      | exact LeO.none _
      | refine LeO.ite ?_ ?_
      | refine LeO.bind ?_ (fun _ => ?_)
    · intro y0 y1 y2
      unfold prop_Named.l0
      repeat' first
      | (with_reducible exact ih0 _ _)
      | (with_reducible exact ih1 _ _ _)
      | (with_reducible exact ih2 _ _ _ _ _)
      | (with_reducible exact LeO.refl _)
      | (with_reducible exact LeO.none _)
      | (with_reducible refine LeO.ite ?_ ?_)
      | (with_reducible refine LeO.bind ?_ (fun _ => ?_))
      | exact ih0 _ _
      | exact ih1 _ _ _
      | exact ih2 _ _ _ _ _
      | exact LeO.none _
      | refine LeO.ite ?_ ?_
      | refine LeO.bind ?_ (fun _ => ?_)
    · intro y0 y1 y2 y3 y4
      unfold prop_Named.j2
      repeat' first
      | (with_reducible exact ih0 _ _)
      | (with_reducible exact ih1 _ _ _)
      | (with_reducible exact ih2 _ _ _ _ _)
      | (with_reducible exact LeO.refl _)
      | (with_reducible exact LeO.none _)
      | (with_reducible refine LeO.ite ?_ ?_)
      | (with_reducible refine LeO.bind ?_ (fun _ => ?_))
      | exact ih0 _ _
      | exact ih1 _ _ _
      | exact ih2 _ _ _ _ _
      | exact LeO.none _
      | refine LeO.ite ?_ ?_
      | refine LeO.bind ?_ (fun _ => ?_)
theorem prop_Named.mono : ∀ a0 k, LeO (prop_Named.f k a0) (prop_Named.f (k + 1) a0) := by
  intro a0 k
  obtain ⟨ih0, ih1, ih2⟩ := prop_Named.mono_l k
  unfold prop_Named.f
  repeat' first
      | (with_reducible exact ih0 _ _)
      | (with_reducible exact ih1 _ _ _)
      | (with_reducible exact ih2 _ _ _ _ _)
      | (with_reducible exact LeO.refl _)
      | (with_reducible exact LeO.none _)
      | (with_reducible refine LeO.ite ?_ ?_)
      | (with_reducible refine LeO.bind ?_ (fun _ => ?_))
      | exact ih0 _ _
      | exact ih1 _ _ _
      | exact ih2 _ _ _ _ _
      | exact LeO.none _
      | refine LeO.ite ?_ ?_
      | refine LeO.bind ?_ (fun _ => ?_)
set_option maxHeartbeats 8000000 in
set_option maxRecDepth 100000 in
theorem prop_Named.calls (k : Nat) (a0 : ByteArray) (r : Bool) (w : World) (h : prop_Named.f k a0 = some r) :
    Calls Tryd.prog 15 #[.string a0] w fun e w' => e = .returned (.bool r) ∧ Below w.heap.size w w' := by
  have HB := Aside0.mk (Below.refl w.heap.size w)
  have H : (if a0.toList = ([] : List UInt8) then (prop_Named.j0 k a0 true) else (prop_Named.j0 k a0 (decide ((a0.size : Int) > 31)))) = some r := h
  clear h
  have HC2 := Aside0.mk H
  clear H
  go_enter Tryd.func15, Tryd.ntmps15
  go_upto_region 1 with (fail)
  go_cut [11] (fun v11 wc => ∃ (kq : Nat) (x11_1 : Bool), v11 = .bool x11_1 ∧ Aside0 (prop_Named.j0 kq a0 x11_1 = some r) ∧ Aside0 (kq ≤ k) ∧ Aside0 (Below w.heap.size w wc))
  case first =>
    have H := HC2.out
    clear HC2
    by_cases c3 : a0.toList = ([] : List UInt8)
    · rw [if_pos c3] at H
      have c3b0 : (a0.toList == ([] : List UInt8)) = true := beq_iff_eq.mpr c3
      have c3b1 : (a0.toList != ([] : List UInt8)) = false := bne_eq_false_iff_eq.mpr c3
      clear c3
      (first | rw [c3b0] | (simp only [i64_w, i32_w]; rw [c3b0]) | skip)
      have H' := Aside0.mk H
      clear H
      go_wp2
      go_meet
      case rel => exact ⟨_, (true), (by first | rfl | (simp; done) | (simp [*]; done)), H', ⟨by first | omega | exact Nat.le_refl _⟩, ⟨by repeat (first | (with_reducible first | exact HB.out | apply below_alloc | apply pw_below_drewN | apply below_drew1) | exact HB.out)⟩⟩
    · rw [if_neg c3] at H
      have c3b0 : (a0.toList == ([] : List UInt8)) = false := beq_eq_false_iff_ne.mpr c3
      have c3b1 : (a0.toList != ([] : List UInt8)) = true := bne_iff_ne.mpr c3
      (first | rw [c3b0] | (simp only [i64_w, i32_w]; rw [c3b0]) | skip)
      have H' := Aside0.mk H
      clear H
      go_wp2
      go_meet
      case rel => exact ⟨_, (decide ((a0.size : Int) > 31)), (by first | rfl | (simp; done) | (simp [*]; done)), H', ⟨by first | omega | exact Nat.le_refl _⟩, ⟨by repeat (first | (with_reducible first | exact HB.out | apply below_alloc | apply pw_below_drewN | apply below_drew1) | exact HB.out)⟩⟩
  case rest =>
    clear HC2
    try clear c1
    try clear p2
    try clear c3
    try clear c3b0
    try clear c3b1
    obtain ⟨kq, x11_1, rfl, HA, HJ1, HB⟩ := hcut
    cases kq with
    | zero => exact absurd HA.out (by simp [prop_Named.j0])
    | succ kj1 =>
      have H := HA.out
      clear HA
      simp only [prop_Named.j0] at H
      by_cases c4 : x11_1 = true
      · subst c4
        have H1 : (some false) = some r := by rw [if_pos rfl] at H; exact H
        clear H
        have H := H1
        clear H1
        obtain rfl := Option.some.inj H
        go_wp2
        go_ret
        exact ⟨by first | rfl | (simp [errW_none, errW_some] <;> rfl) | (simp [*, errW_none, errW_some] <;> rfl), by repeat (first | (with_reducible first | exact HB.out | apply below_alloc | apply pw_below_drewN | apply below_drew1) | exact HB.out)⟩
      · replace c4 := Bool.eq_false_iff.mpr c4
        subst c4
        have H1 : (prop_Named.l0 kj1 a0 (a0.size : Int) 0) = some r := by rw [if_neg (show ¬ (false = true) by decide)] at H; exact H
        clear H
        have H := H1
        clear H1
        have H' := Aside0.mk H
        clear H
        go_wp2
        go_loopg [14] kj1 (fun kq v14 w' => ∃ (x14_2 : Int), v14 = .int .i64 x14_2 ∧ Aside0 (prop_Named.l0 kq a0 (a0.size : Int) x14_2 = some r) ∧ Aside0 (kq ≤ kj1) ∧ Aside0 (Below w.heap.size w w'))
        case atStart => exact ⟨(0), (by first | rfl | (simp; done) | (simp [*]; done)), H', ⟨Nat.le_refl _⟩, ⟨by repeat (first | (with_reducible first | exact HB.out | apply below_alloc | apply pw_below_drewN | apply below_drew1) | exact HB.out)⟩⟩
        case round =>
          clear H'
          try clear c1
          try clear p2
          try clear c3
          try clear c3b0
          try clear c3b1
          try clear c4
          try clear p2
          obtain ⟨x14_2, rfl, HA, HK2, HB⟩ := hrel
          cases gk with
          | zero => exact absurd HA.out (by simp [prop_Named.l0])
          | succ k2 =>
            have H := HA.out
            clear HA
            simp only [prop_Named.l0] at H
            by_cases c5 : x14_2 < (a0.size : Int)
            · rw [if_pos c5] at H
              have c5b0 : decide (x14_2 < (a0.size : Int)) = true := decide_eq_true c5
              clear c5
              by_cases c6 : 0 ≤ x14_2
              · rw [if_pos c6] at H
                have c6b0 : decide (0 ≤ x14_2) = true := decide_eq_true c6
                clear c6
                by_cases c7 : x14_2 < (a0.size : Int)
                · rw [if_pos c7] at H
                  have c7b0 : decide (x14_2 < (a0.size : Int)) = true := decide_eq_true c7
                  clear c7
                  have HC9 := Aside0.mk H
                  clear H
                  have p8 : 0 ≤ (x14_2 : Int) := of_decide_eq_true (by first | (with_reducible assumption) | assumption)
                  have q8 : x14_2 < (a0.size : Int) := of_decide_eq_true (by first | (with_reducible assumption) | assumption)
                  have hx8 := bt_at a0 x14_2
                  replace p8 := eq_true p8
                  replace q8 := eq_true q8
                  go_upto_region 7 with (fail)
                  go_cut [20] (fun v20 wc => ∃ (kq : Nat) (x20_8 : Bool), v20 = .bool x20_8 ∧ Aside0 (prop_Named.j2 kq a0 (bt a0 x14_2) (a0.size : Int) x14_2 x20_8 = some r) ∧ Aside0 (kq ≤ k2) ∧ Aside0 (Below w.heap.size w wc))
                  case first =>
                    have H := HC9.out
                    clear HC9
                    by_cases c10 : (bt a0 x14_2) ≤ 32
                    · rw [if_pos c10] at H
                      have c10b0 : decide ((bt a0 x14_2) ≤ 32) = true := decide_eq_true c10
                      clear c10
                      (first | rw [c10b0] | (simp only [i64_w, i32_w]; rw [c10b0]) | skip)
                      have H' := Aside0.mk H
                      clear H
                      go_wp2
                      go_meet
                      case rel => exact ⟨_, (true), (by first | rfl | (simp; done) | (simp [*]; done)), H', ⟨by have := HJ1.out; have := HK2.out; first | omega | exact Nat.le_refl _⟩, ⟨by repeat (first | (with_reducible first | exact HB.out | apply below_alloc | apply pw_below_drewN | apply below_drew1) | exact HB.out)⟩⟩
                    · rw [if_neg c10] at H
                      have c10b0 : decide ((bt a0 x14_2) ≤ 32) = false := decide_eq_false c10
                      clear c10
                      (first | rw [c10b0] | (simp only [i64_w, i32_w]; rw [c10b0]) | skip)
                      by_cases c11 : (bt a0 x14_2) > 126
                      · rw [if_pos c11] at H
                        have c11b0 : decide (126 < (bt a0 x14_2)) = true := decide_eq_true c11
                        clear c11
                        have H' := Aside0.mk H
                        clear H
                        go_wp2
                        go_meet
                        case rel => exact ⟨_, (true), (by first | rfl | (simp; done) | (simp [*]; done)), H', ⟨by have := HJ1.out; have := HK2.out; first | omega | exact Nat.le_refl _⟩, ⟨by repeat (first | (with_reducible first | exact HB.out | apply below_alloc | apply pw_below_drewN | apply below_drew1) | exact HB.out)⟩⟩
                      · rw [if_neg c11] at H
                        have c11b0 : decide (126 < (bt a0 x14_2)) = false := decide_eq_false c11
                        clear c11
                        by_cases c12 : (bt a0 x14_2) ≥ 65
                        · rw [if_pos c12] at H
                          have c12b0 : decide (65 ≤ (bt a0 x14_2)) = true := decide_eq_true c12
                          clear c12
                          have H' := Aside0.mk H
                          clear H
                          go_wp2
                          go_meet
                          case rel => exact ⟨_, (decide ((bt a0 x14_2) ≤ 90)), (by first | rfl | (simp; done) | (simp [*]; done)), H', ⟨by have := HJ1.out; have := HK2.out; first | omega | exact Nat.le_refl _⟩, ⟨by repeat (first | (with_reducible first | exact HB.out | apply below_alloc | apply pw_below_drewN | apply below_drew1) | exact HB.out)⟩⟩
                        · rw [if_neg c12] at H
                          have c12b0 : decide (65 ≤ (bt a0 x14_2)) = false := decide_eq_false c12
                          clear c12
                          have H' := Aside0.mk H
                          clear H
                          go_wp2
                          go_meet
                          case rel => exact ⟨_, (false), (by first | rfl | (simp; done) | (simp [*]; done)), H', ⟨by have := HJ1.out; have := HK2.out; first | omega | exact Nat.le_refl _⟩, ⟨by repeat (first | (with_reducible first | exact HB.out | apply below_alloc | apply pw_below_drewN | apply below_drew1) | exact HB.out)⟩⟩
                  case rest =>
                    clear HC9
                    try clear c1
                    try clear p2
                    try clear c3
                    try clear c3b0
                    try clear c3b1
                    try clear c4
                    try clear c5
                    try clear c5b0
                    try clear c6
                    try clear c6b0
                    try clear c7
                    try clear c7b0
                    try clear p8
                    try clear q8
                    try clear hx8
                    try clear c10
                    try clear c10b0
                    try clear c11
                    try clear c11b0
                    try clear c12
                    try clear c12b0
                    try clear p2
                    try clear p8
                    try clear q8
                    obtain ⟨kq, x20_8, rfl, HA, HJ8, HB⟩ := hcut
                    cases kq with
                    | zero => exact absurd HA.out (by simp [prop_Named.j2])
                    | succ kj8 =>
                      have H := HA.out
                      clear HA
                      simp only [prop_Named.j2] at H
                      by_cases c13 : x20_8 = true
                      · subst c13
                        have H1 : (some false) = some r := by rw [if_pos rfl] at H; exact H
                        clear H
                        have H := H1
                        clear H1
                        obtain rfl := Option.some.inj H
                        go_wp2
                        go_ret
                        exact ⟨by first | rfl | (simp [errW_none, errW_some] <;> rfl) | (simp [*, errW_none, errW_some] <;> rfl), by repeat (first | (with_reducible first | exact HB.out | apply below_alloc | apply pw_below_drewN | apply below_drew1) | exact HB.out)⟩
                      · replace c13 := Bool.eq_false_iff.mpr c13
                        subst c13
                        have H1 : ((strings_IndexByte.f (⟨#[47, 92, 58, 91, 93, 64]⟩ : ByteArray) (bt a0 x14_2)).bind fun t16001 => (if t16001 ≥ 0 then (some false) else (prop_Named.l0 kj8 a0 (a0.size : Int) (wrap64 (x14_2 + 1))))) = some r := by rw [if_neg (show ¬ (false = true) by decide)] at H; exact H
                        clear H
                        have H := H1
                        clear H1
                        replace H := Option.bind_eq_some_iff.mp H
                        obtain ⟨t16001, A140, H⟩ := H
                        replace H : (if t16001 ≥ 0 then (some false) else (prop_Named.l0 kj8 a0 (a0.size : Int) (wrap64 (x14_2 + 1)))) = some r := H
                        have A14 := Aside0.mk A140
                        clear A140
                        by_cases c15 : t16001 ≥ 0
                        · rw [if_pos c15] at H
                          have c15b0 : decide (0 ≤ t16001) = true := decide_eq_true c15
                          clear c15
                          obtain rfl := Option.some.inj H
                          go_wp2_with (first | ((with_reducible refine gate_callee (f := 45) rfl ?_); refine goesL_ (some 37) rfl rfl Tryd.func45 (by kernel_rfl) rfl #[.string (⟨#[47, 92, 58, 91, 93, 64]⟩ : ByteArray), .int .u8 (bt a0 x14_2)] rfl (by (try simp only [List.map_toArray, List.map_cons, List.map_nil]); first | done | rfl | (simp only [List.length_drop, List.length_take]; rfl)) ?_; (with_reducible refine (strings_IndexByte.calls (⟨#[47, 92, 58, 91, 93, 64]⟩ : ByteArray) (bt a0 x14_2) t16001 _ A14.out).mono ?_); rintro e w16 ⟨rfl, hb⟩; refine ⟨_, rfl, ?_⟩; have n0_ := Aside0.mk (below_step (by repeat (first | (with_reducible first | exact HB.out | apply below_alloc | apply pw_below_drewN | apply below_drew1) | exact HB.out)) hb); clear HB; have HB := n0_; clear n0_; (try clear hb); (try clear hb2); (try clear hk); (try clear hi)))
                          go_ret
                          exact ⟨by first | rfl | (simp [errW_none, errW_some] <;> rfl) | (simp [*, errW_none, errW_some] <;> rfl), by repeat (first | (with_reducible first | exact HB.out | apply below_alloc | apply pw_below_drewN | apply below_drew1) | exact HB.out)⟩
                        · rw [if_neg c15] at H
                          have c15b0 : decide (0 ≤ t16001) = false := decide_eq_false c15
                          clear c15
                          have H' := Aside0.mk H
                          clear H
                          go_wp2_with (first | ((with_reducible refine gate_callee (f := 45) rfl ?_); refine goesL_ (some 37) rfl rfl Tryd.func45 (by kernel_rfl) rfl #[.string (⟨#[47, 92, 58, 91, 93, 64]⟩ : ByteArray), .int .u8 (bt a0 x14_2)] rfl (by (try simp only [List.map_toArray, List.map_cons, List.map_nil]); first | done | rfl | (simp only [List.length_drop, List.length_take]; rfl)) ?_; (with_reducible refine (strings_IndexByte.calls (⟨#[47, 92, 58, 91, 93, 64]⟩ : ByteArray) (bt a0 x14_2) t16001 _ A14.out).mono ?_); rintro e w17 ⟨rfl, hb⟩; refine ⟨_, rfl, ?_⟩; have n0_ := Aside0.mk (below_step (by repeat (first | (with_reducible first | exact HB.out | apply below_alloc | apply pw_below_drewN | apply below_drew1) | exact HB.out)) hb); clear HB; have HB := n0_; clear n0_; (try clear hb); (try clear hb2); (try clear hk); (try clear hi)))
                          go_roundg kj8
                          case measure => have := HJ1.out; have := HK2.out; have := HJ8.out; omega
                          case rel => exact ⟨(wrap64 (x14_2 + 1)), (by first | rfl | (simp; done) | (simp [*]; done)), H', ⟨by have := HJ1.out; have := HK2.out; have := HJ8.out; omega⟩, ⟨by repeat (first | (with_reducible first | exact HB.out | apply below_alloc | apply pw_below_drewN | apply below_drew1) | exact HB.out)⟩⟩
                · rw [if_neg c7] at H
                  exact absurd H (by simp)
              · rw [if_neg c6] at H
                exact absurd H (by simp)
            · rw [if_neg c5] at H
              have c5b0 : decide (x14_2 < (a0.size : Int)) = false := decide_eq_false c5
              clear c5
              obtain rfl := Option.some.inj H
              go_wp2
              go_ret
              exact ⟨by first | rfl | (simp [errW_none, errW_some] <;> rfl) | (simp [*, errW_none, errW_some] <;> rfl), by repeat (first | (with_reducible first | exact HB.out | apply below_alloc | apply pw_below_drewN | apply below_drew1) | exact HB.out)⟩

end Go.Proofs.YtlhnaplmphdhlaaDoor.Q
end
section
namespace Go.Proofs.YtlhnaplmphdhlaaDoor.Q
open Go.RowKit Go.Proofs.YtlhnaplmphdhlaaDoorW.PrintWords Go.Proofs.YtlhnaplmphdhlaaDoorW.PrintLast Go.Proofs.YtlhnaplmphdhlaaDoorW.PrintMore
set_option linter.unusedVariables false
set_option linter.unusedSimpArgs false

attribute [local go_sem] max2_int min2_int max_two min_two max_three min_three max_four min_four
/-! ### tinderref05_Named: function 16 -/
mutual
def tinderref05_Named.j0 : Nat → ByteArray → Bool → Option (Bool)
  | 0, _, _ => none
  | k + 1, x0, x13 => if x13 = true then (some false) else (tinderref05_Named.l0 k x0 0)
def tinderref05_Named.l0 : Nat → ByteArray → Int → Option (Bool)
  | 0, _, _ => none
  | k + 1, x0, x3 => if x3 < (x0.size : Int) then (if 0 ≤ x3 then (if (bt x0 x3) < 33 then (tinderref05_Named.j2 k x0 x3 (bt x0 x3) true) else (if (bt x0 x3) > 126 then (tinderref05_Named.j2 k x0 x3 (bt x0 x3) true) else (if (bt x0 x3) ≥ 65 then (tinderref05_Named.j2 k x0 x3 (bt x0 x3) (decide ((bt x0 x3) ≤ 90))) else (tinderref05_Named.j2 k x0 x3 (bt x0 x3) false)))) else (none)) else (some true)
def tinderref05_Named.j2 : Nat → ByteArray → Int → Int → Bool → Option (Bool)
  | 0, _, _, _, _ => none
  | k + 1, x0, x3, x4, x36 => if x36 = true then (some false) else (tinderref05_Named.l1 k x0 x3 x4 0)
def tinderref05_Named.l1 : Nat → ByteArray → Int → Int → Int → Option (Bool)
  | 0, _, _, _, _ => none
  | k + 1, x0, x3, x4, x5 => if x5 < 6 then (if 0 ≤ x5 then (if x4 = (bt (⟨#[47, 92, 58, 91, 93, 64]⟩ : ByteArray) x5) then (some false) else (tinderref05_Named.l1 k x0 x3 x4 (wrap64 (x5 + 1)))) else (none)) else (tinderref05_Named.l0 k x0 (wrap64 (x3 + 1)))
end
def tinderref05_Named.f (k : Nat) (a0 : ByteArray) : Option (Bool) := if (a0.size : Int) < 1 then (tinderref05_Named.j0 k a0 true) else (tinderref05_Named.j0 k a0 (decide ((a0.size : Int) > 31)))
theorem tinderref05_Named.mono_l : ∀ k, (∀ y0 y1, LeO (tinderref05_Named.j0 k y0 y1) (tinderref05_Named.j0 (k + 1) y0 y1)) ∧ (∀ y0 y1, LeO (tinderref05_Named.l0 k y0 y1) (tinderref05_Named.l0 (k + 1) y0 y1)) ∧ (∀ y0 y1 y2 y3, LeO (tinderref05_Named.j2 k y0 y1 y2 y3) (tinderref05_Named.j2 (k + 1) y0 y1 y2 y3)) ∧ (∀ y0 y1 y2 y3, LeO (tinderref05_Named.l1 k y0 y1 y2 y3) (tinderref05_Named.l1 (k + 1) y0 y1 y2 y3))
  | 0 => ⟨fun _ _ r h => by simp [tinderref05_Named.j0] at h, fun _ _ r h => by simp [tinderref05_Named.l0] at h, fun _ _ _ _ r h => by simp [tinderref05_Named.j2] at h, fun _ _ _ _ r h => by simp [tinderref05_Named.l1] at h⟩
  | k + 1 => by
    obtain ⟨ih0, ih1, ih2, ih3⟩ := tinderref05_Named.mono_l k
    refine ⟨?_, ?_, ?_, ?_⟩
    · intro y0 y1
      unfold tinderref05_Named.j0
      repeat' first
      | (with_reducible exact ih0 _ _)
      | (with_reducible exact ih1 _ _)
      | (with_reducible exact ih2 _ _ _ _)
      | (with_reducible exact ih3 _ _ _ _)
      | (with_reducible exact LeO.refl _)
      | (with_reducible exact LeO.none _)
      | (with_reducible refine LeO.ite ?_ ?_)
      | (with_reducible refine LeO.bind ?_ (fun _ => ?_))
      | exact ih0 _ _
      | exact ih1 _ _
      | exact ih2 _ _ _ _
      | exact ih3 _ _ _ _
      | exact LeO.none _
      | refine LeO.ite ?_ ?_
      | refine LeO.bind ?_ (fun _ => ?_)
    · intro y0 y1
      unfold tinderref05_Named.l0
      repeat' first
      | (with_reducible exact ih0 _ _)
      | (with_reducible exact ih1 _ _)
      | (with_reducible exact ih2 _ _ _ _)
      | (with_reducible exact ih3 _ _ _ _)
      | (with_reducible exact LeO.refl _)
      | (with_reducible exact LeO.none _)
      | (with_reducible refine LeO.ite ?_ ?_)
      | (with_reducible refine LeO.bind ?_ (fun _ => ?_))
      | exact ih0 _ _
      | exact ih1 _ _
      | exact ih2 _ _ _ _
      | exact ih3 _ _ _ _
      | exact LeO.none _
      | refine LeO.ite ?_ ?_
      | refine LeO.bind ?_ (fun _ => ?_)
    · intro y0 y1 y2 y3
      unfold tinderref05_Named.j2
      repeat' first
      | (with_reducible exact ih0 _ _)
      | (with_reducible exact ih1 _ _)
      | (with_reducible exact ih2 _ _ _ _)
      | (with_reducible exact ih3 _ _ _ _)
      | (with_reducible exact LeO.refl _)
      | (with_reducible exact LeO.none _)
      | (with_reducible refine LeO.ite ?_ ?_)
      | (with_reducible refine LeO.bind ?_ (fun _ => ?_))
      | exact ih0 _ _
      | exact ih1 _ _
      | exact ih2 _ _ _ _
      | exact ih3 _ _ _ _
      | exact LeO.none _
      | refine LeO.ite ?_ ?_
      | refine LeO.bind ?_ (fun _ => ?_)
    · intro y0 y1 y2 y3
      unfold tinderref05_Named.l1
      repeat' first
      | (with_reducible exact ih0 _ _)
      | (with_reducible exact ih1 _ _)
      | (with_reducible exact ih2 _ _ _ _)
      | (with_reducible exact ih3 _ _ _ _)
      | (with_reducible exact LeO.refl _)
      | (with_reducible exact LeO.none _)
      | (with_reducible refine LeO.ite ?_ ?_)
      | (with_reducible refine LeO.bind ?_ (fun _ => ?_))
      | exact ih0 _ _
      | exact ih1 _ _
      | exact ih2 _ _ _ _
      | exact ih3 _ _ _ _
      | exact LeO.none _
      | refine LeO.ite ?_ ?_
      | refine LeO.bind ?_ (fun _ => ?_)
theorem tinderref05_Named.mono : ∀ a0 k, LeO (tinderref05_Named.f k a0) (tinderref05_Named.f (k + 1) a0) := by
  intro a0 k
  obtain ⟨ih0, ih1, ih2, ih3⟩ := tinderref05_Named.mono_l k
  unfold tinderref05_Named.f
  repeat' first
      | (with_reducible exact ih0 _ _)
      | (with_reducible exact ih1 _ _)
      | (with_reducible exact ih2 _ _ _ _)
      | (with_reducible exact ih3 _ _ _ _)
      | (with_reducible exact LeO.refl _)
      | (with_reducible exact LeO.none _)
      | (with_reducible refine LeO.ite ?_ ?_)
      | (with_reducible refine LeO.bind ?_ (fun _ => ?_))
      | exact ih0 _ _
      | exact ih1 _ _
      | exact ih2 _ _ _ _
      | exact ih3 _ _ _ _
      | exact LeO.none _
      | refine LeO.ite ?_ ?_
      | refine LeO.bind ?_ (fun _ => ?_)
set_option maxHeartbeats 8000000 in
set_option maxRecDepth 100000 in
theorem tinderref05_Named.calls (k : Nat) (a0 : ByteArray) (r : Bool) (w : World) (h : tinderref05_Named.f k a0 = some r) :
    Calls Tryd.prog 16 #[.string a0] w fun e w' => e = .returned (.bool r) ∧ Drawn0 w w' := by
  have H : (if (a0.size : Int) < 1 then (tinderref05_Named.j0 k a0 true) else (tinderref05_Named.j0 k a0 (decide ((a0.size : Int) > 31)))) = some r := h
  clear h
  have HC2 := Aside0.mk H
  clear H
  go_enter Tryd.func16, Tryd.ntmps16
  go_upto_region 1 with (fail)
  go_cut [13] (fun v13 wc => ∃ (kq : Nat) (x13_1 : Bool), v13 = .bool x13_1 ∧ Aside0 (tinderref05_Named.j0 kq a0 x13_1 = some r) ∧ Aside0 (kq ≤ k) ∧ Drawn0 w wc)
  case first =>
    have H := HC2.out
    clear HC2
    by_cases c3 : (a0.size : Int) < 1
    · rw [if_pos c3] at H
      have c3b0 : decide ((a0.size : Int) < 1) = true := decide_eq_true c3
      have c3b1 : decide (a0.size < 1) = true := decide_eq_true (by omega)
      clear c3
      (first | rw [c3b0] | (simp only [i64_w, i32_w]; rw [c3b0]) | skip)
      have H' := Aside0.mk H
      clear H
      go_wp2
      go_meet
      case rel => exact ⟨_, (true), (by first | rfl | (simp; done) | (simp [*]; done)), H', ⟨by first | omega | exact Nat.le_refl _⟩, by repeat (first | exact Drawn0.refl _ | apply Drawn0.step)⟩
    · rw [if_neg c3] at H
      have c3b0 : decide ((a0.size : Int) < 1) = false := decide_eq_false c3
      have c3b1 : decide (a0.size < 1) = false := decide_eq_false (by omega)
      clear c3
      (first | rw [c3b0] | (simp only [i64_w, i32_w]; rw [c3b0]) | skip)
      have H' := Aside0.mk H
      clear H
      go_wp2
      go_meet
      case rel => exact ⟨_, (decide ((a0.size : Int) > 31)), (by first | rfl | (simp; done) | (simp [*]; done)), H', ⟨by first | omega | exact Nat.le_refl _⟩, by repeat (first | exact Drawn0.refl _ | apply Drawn0.step)⟩
  case rest =>
    clear HC2
    try clear c1
    try clear p2
    try clear c3
    try clear c3b0
    try clear c3b1
    obtain ⟨kq, x13_1, rfl, HA, HJ1, ⟨mc1, rfl⟩⟩ := hcut
    cases kq with
    | zero => exact absurd HA.out (by simp [tinderref05_Named.j0])
    | succ kj1 =>
      have H := HA.out
      clear HA
      simp only [tinderref05_Named.j0] at H
      by_cases c4 : x13_1 = true
      · subst c4
        have H1 : (some false) = some r := by rw [if_pos rfl] at H; exact H
        clear H
        have H := H1
        clear H1
        obtain rfl := Option.some.inj H
        go_wp2
        go_ret
        exact ⟨by first | rfl | (simp; done) | (simp [*]; done), by repeat (first | exact Drawn0.refl _ | apply Drawn0.step)⟩
      · replace c4 := Bool.eq_false_iff.mpr c4
        subst c4
        have H1 : (tinderref05_Named.l0 kj1 a0 0) = some r := by rw [if_neg (show ¬ (false = true) by decide)] at H; exact H
        clear H
        have H := H1
        clear H1
        have H' := Aside0.mk H
        clear H
        go_wp2
        go_loopg [3] kj1 (fun kq v3 w' => ∃ (x3_2 : Int), v3 = .int .i64 x3_2 ∧ Aside0 (tinderref05_Named.l0 kq a0 x3_2 = some r) ∧ Aside0 (kq ≤ kj1) ∧ Drawn0 w w')
        case atStart => exact ⟨(0), (by first | rfl | (simp; done) | (simp [*]; done)), H', ⟨Nat.le_refl _⟩, by repeat (first | exact Drawn0.refl _ | apply Drawn0.step)⟩
        case round =>
          clear H'
          try clear c1
          try clear p2
          try clear c3
          try clear c3b0
          try clear c3b1
          try clear c4
          try clear p2
          obtain ⟨x3_2, rfl, HA, HK2, ⟨m2, rfl⟩⟩ := hrel
          cases gk with
          | zero => exact absurd HA.out (by simp [tinderref05_Named.l0])
          | succ k2 =>
            have H := HA.out
            clear HA
            simp only [tinderref05_Named.l0] at H
            by_cases c5 : x3_2 < (a0.size : Int)
            · rw [if_pos c5] at H
              have c5b0 : decide (x3_2 < (a0.size : Int)) = true := decide_eq_true c5
              clear c5
              by_cases c6 : 0 ≤ x3_2
              · rw [if_pos c6] at H
                have c6b0 : decide (0 ≤ x3_2) = true := decide_eq_true c6
                clear c6
                have HC8 := Aside0.mk H
                clear H
                have p7 : 0 ≤ (x3_2 : Int) := of_decide_eq_true (by first | (with_reducible assumption) | assumption)
                have q7 : x3_2 < (a0.size : Int) := of_decide_eq_true (by first | (with_reducible assumption) | assumption)
                have hx7 := bt_at a0 x3_2
                replace p7 := eq_true p7
                replace q7 := eq_true q7
                go_upto_region 7 with (fail)
                go_cut [36] (fun v36 wc => ∃ (kq : Nat) (x36_7 : Bool), v36 = .bool x36_7 ∧ Aside0 (tinderref05_Named.j2 kq a0 x3_2 (bt a0 x3_2) x36_7 = some r) ∧ Aside0 (kq ≤ k2) ∧ Drawn0 w wc)
                case first =>
                  have H := HC8.out
                  clear HC8
                  by_cases c9 : (bt a0 x3_2) < 33
                  · rw [if_pos c9] at H
                    have c9b0 : decide ((bt a0 x3_2) < 33) = true := decide_eq_true c9
                    clear c9
                    (first | rw [c9b0] | (simp only [i64_w, i32_w]; rw [c9b0]) | skip)
                    have H' := Aside0.mk H
                    clear H
                    go_wp2
                    go_meet
                    case rel => exact ⟨_, (true), (by first | rfl | (simp; done) | (simp [*]; done)), H', ⟨by have := HJ1.out; have := HK2.out; first | omega | exact Nat.le_refl _⟩, by repeat (first | exact Drawn0.refl _ | apply Drawn0.step)⟩
                  · rw [if_neg c9] at H
                    have c9b0 : decide ((bt a0 x3_2) < 33) = false := decide_eq_false c9
                    clear c9
                    (first | rw [c9b0] | (simp only [i64_w, i32_w]; rw [c9b0]) | skip)
                    by_cases c10 : (bt a0 x3_2) > 126
                    · rw [if_pos c10] at H
                      have c10b0 : decide (126 < (bt a0 x3_2)) = true := decide_eq_true c10
                      clear c10
                      have H' := Aside0.mk H
                      clear H
                      go_wp2
                      go_meet
                      case rel => exact ⟨_, (true), (by first | rfl | (simp; done) | (simp [*]; done)), H', ⟨by have := HJ1.out; have := HK2.out; first | omega | exact Nat.le_refl _⟩, by repeat (first | exact Drawn0.refl _ | apply Drawn0.step)⟩
                    · rw [if_neg c10] at H
                      have c10b0 : decide (126 < (bt a0 x3_2)) = false := decide_eq_false c10
                      clear c10
                      by_cases c11 : (bt a0 x3_2) ≥ 65
                      · rw [if_pos c11] at H
                        have c11b0 : decide (65 ≤ (bt a0 x3_2)) = true := decide_eq_true c11
                        clear c11
                        have H' := Aside0.mk H
                        clear H
                        go_wp2
                        go_meet
                        case rel => exact ⟨_, (decide ((bt a0 x3_2) ≤ 90)), (by first | rfl | (simp; done) | (simp [*]; done)), H', ⟨by have := HJ1.out; have := HK2.out; first | omega | exact Nat.le_refl _⟩, by repeat (first | exact Drawn0.refl _ | apply Drawn0.step)⟩
                      · rw [if_neg c11] at H
                        have c11b0 : decide (65 ≤ (bt a0 x3_2)) = false := decide_eq_false c11
                        clear c11
                        have H' := Aside0.mk H
                        clear H
                        go_wp2
                        go_meet
                        case rel => exact ⟨_, (false), (by first | rfl | (simp; done) | (simp [*]; done)), H', ⟨by have := HJ1.out; have := HK2.out; first | omega | exact Nat.le_refl _⟩, by repeat (first | exact Drawn0.refl _ | apply Drawn0.step)⟩
                case rest =>
                  clear HC8
                  try clear c1
                  try clear p2
                  try clear c3
                  try clear c3b0
                  try clear c3b1
                  try clear c4
                  try clear c5
                  try clear c5b0
                  try clear c6
                  try clear c6b0
                  try clear p7
                  try clear q7
                  try clear hx7
                  try clear c9
                  try clear c9b0
                  try clear c10
                  try clear c10b0
                  try clear c11
                  try clear c11b0
                  try clear p2
                  try clear p7
                  try clear q7
                  obtain ⟨kq, x36_7, rfl, HA, HJ7, ⟨mc7, rfl⟩⟩ := hcut
                  cases kq with
                  | zero => exact absurd HA.out (by simp [tinderref05_Named.j2])
                  | succ kj7 =>
                    have H := HA.out
                    clear HA
                    simp only [tinderref05_Named.j2] at H
                    by_cases c12 : x36_7 = true
                    · subst c12
                      have H1 : (some false) = some r := by rw [if_pos rfl] at H; exact H
                      clear H
                      have H := H1
                      clear H1
                      obtain rfl := Option.some.inj H
                      go_wp2
                      go_ret
                      exact ⟨by first | rfl | (simp; done) | (simp [*]; done), by repeat (first | exact Drawn0.refl _ | apply Drawn0.step)⟩
                    · replace c12 := Bool.eq_false_iff.mpr c12
                      subst c12
                      have H1 : (tinderref05_Named.l1 kj7 a0 x3_2 (bt a0 x3_2) 0) = some r := by rw [if_neg (show ¬ (false = true) by decide)] at H; exact H
                      clear H
                      have H := H1
                      clear H1
                      have H' := Aside0.mk H
                      clear H
                      go_wp2
                      go_loopg [5] kj7 (fun kq v5 w' => ∃ (x5_4 : Int), v5 = .int .i64 x5_4 ∧ Aside0 (tinderref05_Named.l1 kq a0 x3_2 (bt a0 x3_2) x5_4 = some r) ∧ Aside0 (kq ≤ kj7) ∧ Drawn0 w w')
                      case atStart => exact ⟨(0), (by first | rfl | (simp; done) | (simp [*]; done)), H', ⟨Nat.le_refl _⟩, by repeat (first | exact Drawn0.refl _ | apply Drawn0.step)⟩
                      case round =>
                        clear H'
                        try clear c1
                        try clear p2
                        try clear c3
                        try clear c3b0
                        try clear c3b1
                        try clear c4
                        try clear c5
                        try clear c5b0
                        try clear c6
                        try clear c6b0
                        try clear c7
                        try clear p7
                        try clear q7
                        try clear hx7
                        try clear c9
                        try clear c9b0
                        try clear c10
                        try clear c10b0
                        try clear c11
                        try clear c11b0
                        try clear c12
                        try clear p2
                        try clear p7
                        try clear q7
                        obtain ⟨x5_4, rfl, HA, HK4, ⟨m4, rfl⟩⟩ := hrel
                        cases gk with
                        | zero => exact absurd HA.out (by simp [tinderref05_Named.l1])
                        | succ k4 =>
                          have H := HA.out
                          clear HA
                          simp only [tinderref05_Named.l1] at H
                          by_cases c13 : x5_4 < 6
                          · rw [if_pos c13] at H
                            have c13b0 : decide (x5_4 < 6) = true := decide_eq_true c13
                            clear c13
                            by_cases c14 : 0 ≤ x5_4
                            · rw [if_pos c14] at H
                              have c14b0 : decide (0 ≤ x5_4) = true := decide_eq_true c14
                              clear c14
                              by_cases c16 : (bt a0 x3_2) = (bt (⟨#[47, 92, 58, 91, 93, 64]⟩ : ByteArray) x5_4)
                              · rw [if_pos c16] at H
                                have c16b0 : ((bt a0 x3_2) == (bt (⟨#[47, 92, 58, 91, 93, 64]⟩ : ByteArray) x5_4)) = true := beq_iff_eq.mpr c16
                                have c16b1 : ((bt a0 x3_2) != (bt (⟨#[47, 92, 58, 91, 93, 64]⟩ : ByteArray) x5_4)) = false := bne_eq_false_iff_eq.mpr c16
                                clear c16
                                obtain rfl := Option.some.inj H
                                have p15 : 0 ≤ (x5_4 : Int) := of_decide_eq_true (by first | (with_reducible assumption) | assumption)
                                have q15 : x5_4 < (6 : Int) := of_decide_eq_true (by first | (with_reducible assumption) | assumption)
                                have hx15 := bt_at (⟨#[47, 92, 58, 91, 93, 64]⟩ : ByteArray) x5_4
                                replace p15 := eq_true p15
                                replace q15 := eq_true q15
                                go_wp2
                                go_ret
                                exact ⟨by first | rfl | (simp; done) | (simp [*]; done), by repeat (first | exact Drawn0.refl _ | apply Drawn0.step)⟩
                              · rw [if_neg c16] at H
                                have c16b0 : ((bt a0 x3_2) == (bt (⟨#[47, 92, 58, 91, 93, 64]⟩ : ByteArray) x5_4)) = false := beq_eq_false_iff_ne.mpr c16
                                have c16b1 : ((bt a0 x3_2) != (bt (⟨#[47, 92, 58, 91, 93, 64]⟩ : ByteArray) x5_4)) = true := bne_iff_ne.mpr c16
                                have H' := Aside0.mk H
                                clear H
                                have p15 : 0 ≤ (x5_4 : Int) := of_decide_eq_true (by first | (with_reducible assumption) | assumption)
                                have q15 : x5_4 < (6 : Int) := of_decide_eq_true (by first | (with_reducible assumption) | assumption)
                                have hx15 := bt_at (⟨#[47, 92, 58, 91, 93, 64]⟩ : ByteArray) x5_4
                                replace p15 := eq_true p15
                                replace q15 := eq_true q15
                                go_wp2
                                go_roundg k4
                                case measure => have := HJ1.out; have := HK2.out; have := HJ7.out; have := HK4.out; omega
                                case rel => exact ⟨(wrap64 (x5_4 + 1)), (by first | rfl | (simp; done) | (simp [*]; done)), H', ⟨by have := HJ1.out; have := HK2.out; have := HJ7.out; have := HK4.out; omega⟩, by repeat (first | exact Drawn0.refl _ | apply Drawn0.step)⟩
                            · rw [if_neg c14] at H
                              exact absurd H (by simp)
                          · rw [if_neg c13] at H
                            have c13b0 : decide (x5_4 < 6) = false := decide_eq_false c13
                            clear c13
                            have H' := Aside0.mk H
                            clear H
                            go_wp2
                            go_roundg k4
                            case measure => have := HJ1.out; have := HK2.out; have := HJ7.out; have := HK4.out; omega
                            case rel => exact ⟨(wrap64 (x3_2 + 1)), (by first | rfl | (simp; done) | (simp [*]; done)), H', ⟨by have := HJ1.out; have := HK2.out; have := HJ7.out; have := HK4.out; omega⟩, by repeat (first | exact Drawn0.refl _ | apply Drawn0.step)⟩
              · rw [if_neg c6] at H
                exact absurd H (by simp)
            · rw [if_neg c5] at H
              have c5b0 : decide (x3_2 < (a0.size : Int)) = false := decide_eq_false c5
              clear c5
              obtain rfl := Option.some.inj H
              go_wp2
              go_ret
              exact ⟨by first | rfl | (simp; done) | (simp [*]; done), by repeat (first | exact Drawn0.refl _ | apply Drawn0.step)⟩

end Go.Proofs.YtlhnaplmphdhlaaDoor.Q
end
section
set_option linter.unusedSimpArgs false
set_option linter.unusedVariables false
namespace Go.Proofs.YtlhnaplmphdhlaaDoor.Q
open Go.RowKit Go.Proofs.YtlhnaplmphdhlaaDoorW.PrintWords Go.Proofs.YtlhnaplmphdhlaaDoorW.PrintLast
def badB (c : Int) : Bool := decide (c = 47) || decide (c = 92) || decide (c = 58) || decide (c = 91) || decide (c = 93) || decide (c = 64)
def okC (c : Int) : Bool := decide (33 ≤ c) && decide (c ≤ 126) && !(decide (65 ≤ c) && decide (c ≤ 90)) && !badB c
def namedF (s : ByteArray) : Bool := decide (1 ≤ s.size) && decide (s.size ≤ 31) && (bytesOf s).all okC
theorem bad_all : ((List.range 256).all fun (c : Nat) => decide (0 ≤ Lib.indexByte (⟨#[47, 92, 58, 91, 93, 64]⟩ : ByteArray).data.toList ((c : Int).toNat.toUInt8)) == badB (c : Int)) = true := by kernel_rfl
theorem bad_idx (c : Int) (h : 0 ≤ c ∧ c ≤ 255) : decide (0 ≤ Lib.indexByte (⟨#[47, 92, 58, 91, 93, 64]⟩ : ByteArray).data.toList c.toNat.toUInt8) = badB c := by
  have h1 := List.all_eq_true.1 bad_all c.toNat (List.mem_range.2 (by omega))
  rw [beq_iff_eq, show ((c.toNat : Nat) : Int) = c by omega] at h1
  exact h1
theorem named_go (s : ByteArray) (hs : s.size ≤ 31) : ∀ (d k : Nat) (i : Int), 0 ≤ i → i + d = s.size → 2 * d + 2 ≤ k → prop_Named.l0 k s s.size i = some (((bytesOf s).drop i.toNat).all okC)
  | 0, k, i, h0, h1, hk => by
    obtain ⟨k, rfl⟩ : ∃ m, k = m + 1 := ⟨k - 1, by omega⟩
    rw [prop_Named.l0, if_neg (by omega), List.drop_eq_nil_of_le (by rw [bytesOf_length]; omega)]
    rfl
  | d + 1, k, i, h0, h1, hk => by
    obtain ⟨k, rfl⟩ : ∃ m, k = m + 1 + 1 := ⟨k - 2, by omega⟩
    have hb := bt_range s i
    have ih := named_go s hs d k (i + 1) (by omega) (by omega) (by omega)
    have hw : wrap64 (i + 1) = i + 1 := by unfold wrap64; omega
    rw [prop_Named.l0, if_pos (by omega), if_pos h0, if_pos (by omega), bytes_at s i h0 (by omega), List.all_cons]
    have ht : prop_Named.j2 (k + 1) s (bt s i) s.size i true = some false := by rw [prop_Named.j2, if_pos rfl]
    have hf : prop_Named.j2 (k + 1) s (bt s i) s.size i false = some (!badB (bt s i) && ((bytesOf s).drop (i + 1).toNat).all okC) := by
      rw [prop_Named.j2, if_neg (by decide), strings_IndexByte.f, Option.bind_some, hw, ih, ← bad_idx (bt s i) hb]
      by_cases hx : 0 ≤ Lib.indexByte (⟨#[47, 92, 58, 91, 93, 64]⟩ : ByteArray).data.toList (bt s i).toNat.toUInt8
      · rw [if_pos hx]; simp [hx]
      · rw [if_neg hx]; simp [hx]
    rw [show okC (bt s i) = (decide (33 ≤ bt s i) && decide (bt s i ≤ 126) && !(decide (65 ≤ bt s i) && decide (bt s i ≤ 90)) && !badB (bt s i)) from rfl]
    by_cases h2 : bt s i ≤ 32
    · rw [if_pos h2, ht]
      simp [show ¬ 33 ≤ bt s i by omega]
    · rw [if_neg h2]
      by_cases h3 : bt s i > 126
      · rw [if_pos h3, ht]
        simp [show ¬ bt s i ≤ 126 by omega]
      · rw [if_neg h3]
        by_cases h4 : bt s i ≥ 65
        · rw [if_pos h4]
          by_cases h5 : bt s i ≤ 90
          · rw [decide_eq_true h5, ht]
            simp [h5, show 65 ≤ bt s i by omega]
          · rw [decide_eq_false h5, hf]
            simp [h5, show 33 ≤ bt s i by omega, show bt s i ≤ 126 by omega]
        · rw [if_neg h4, hf]
          simp [show ¬ 65 ≤ bt s i by omega, show 33 ≤ bt s i by omega, show bt s i ≤ 126 by omega]
theorem named_eq (k : Nat) (hk : 100 ≤ k) (s : ByteArray) : prop_Named.f k s = some (namedF s) := by
  obtain ⟨k, rfl⟩ : ∃ m, k = m + 1 := ⟨k - 1, by omega⟩
  unfold prop_Named.f namedF
  by_cases h0 : s.size = 0
  · rw [if_pos ((empty_iff s).2 h0), prop_Named.j0, if_pos rfl]
    simp [h0]
  · rw [if_neg (fun h => h0 ((empty_iff s).1 h)), prop_Named.j0]
    by_cases h1 : (s.size : Int) > 31
    · rw [decide_eq_true h1, if_pos rfl]
      simp [show ¬ s.size ≤ 31 by omega]
    · rw [decide_eq_false h1, if_neg (by decide), named_go s (by omega) s.size k 0 (Int.le_refl 0) (by omega) (by omega)]
      simp [show 1 ≤ s.size by omega, show s.size ≤ 31 by omega]
theorem bad_bt : (bt (⟨#[47, 92, 58, 91, 93, 64]⟩ : ByteArray) 0 = 47 ∧ bt (⟨#[47, 92, 58, 91, 93, 64]⟩ : ByteArray) 1 = 92 ∧ bt (⟨#[47, 92, 58, 91, 93, 64]⟩ : ByteArray) 2 = 58) ∧ (bt (⟨#[47, 92, 58, 91, 93, 64]⟩ : ByteArray) 3 = 91 ∧ bt (⟨#[47, 92, 58, 91, 93, 64]⟩ : ByteArray) 4 = 93 ∧ bt (⟨#[47, 92, 58, 91, 93, 64]⟩ : ByteArray) 5 = 64) := ⟨⟨by kernel_rfl, by kernel_rfl, by kernel_rfl⟩, by kernel_rfl, by kernel_rfl, by kernel_rfl⟩
theorem refbad_go (k : Nat) (s : ByteArray) (i c : Int) : tinderref05_Named.l1 (k + 7) s i c 0 = if badB c = true then some false else tinderref05_Named.l0 k s (wrap64 (i + 1)) := by
  obtain ⟨⟨b0, b1, b2⟩, b3, b4, b5⟩ := bad_bt
  have w1 : wrap64 ((0 : Int) + 1) = 1 := by unfold wrap64; omega
  have w2 : wrap64 ((1 : Int) + 1) = 2 := by unfold wrap64; omega
  have w3 : wrap64 ((2 : Int) + 1) = 3 := by unfold wrap64; omega
  have w4 : wrap64 ((3 : Int) + 1) = 4 := by unfold wrap64; omega
  have w5 : wrap64 ((4 : Int) + 1) = 5 := by unfold wrap64; omega
  have w6 : wrap64 ((5 : Int) + 1) = 6 := by unfold wrap64; omega
  unfold badB
  rw [tinderref05_Named.l1, if_pos (by decide), if_pos (by decide), b0]
  by_cases h0 : c = 47
  · rw [if_pos h0]; simp [h0]
  · rw [if_neg h0, w1, tinderref05_Named.l1, if_pos (by decide), if_pos (by decide), b1]
    by_cases h1 : c = 92
    · rw [if_pos h1]; simp [h1]
    · rw [if_neg h1, w2, tinderref05_Named.l1, if_pos (by decide), if_pos (by decide), b2]
      by_cases h2 : c = 58
      · rw [if_pos h2]; simp [h2]
      · rw [if_neg h2, w3, tinderref05_Named.l1, if_pos (by decide), if_pos (by decide), b3]
        by_cases h3 : c = 91
        · rw [if_pos h3]; simp [h3]
        · rw [if_neg h3, w4, tinderref05_Named.l1, if_pos (by decide), if_pos (by decide), b4]
          by_cases h4 : c = 93
          · rw [if_pos h4]; simp [h4]
          · rw [if_neg h4, w5, tinderref05_Named.l1, if_pos (by decide), if_pos (by decide), b5]
            by_cases h5 : c = 64
            · rw [if_pos h5]; simp [h5]
            · rw [if_neg h5, w6, tinderref05_Named.l1, if_neg (by decide)]
              simp [h0, h1, h2, h3, h4, h5]
theorem refnamed_go (s : ByteArray) (hs : s.size ≤ 31) : ∀ (d k : Nat) (i : Int), 0 ≤ i → i + d = s.size → 10 * d + 2 ≤ k → tinderref05_Named.l0 k s i = some (((bytesOf s).drop i.toNat).all okC)
  | 0, k, i, h0, h1, hk => by
    obtain ⟨k, rfl⟩ : ∃ m, k = m + 1 := ⟨k - 1, by omega⟩
    rw [tinderref05_Named.l0, if_neg (by omega), List.drop_eq_nil_of_le (by rw [bytesOf_length]; omega)]
    rfl
  | d + 1, k, i, h0, h1, hk => by
    obtain ⟨k, rfl⟩ : ∃ m, k = m + 7 + 1 + 1 := ⟨k - 9, by omega⟩
    have hb := bt_range s i
    have ih := refnamed_go s hs d k (i + 1) (by omega) (by omega) (by omega)
    have hw : wrap64 (i + 1) = i + 1 := by unfold wrap64; omega
    rw [tinderref05_Named.l0, if_pos (by omega), if_pos h0, bytes_at s i h0 (by omega), List.all_cons]
    have ht : tinderref05_Named.j2 (k + 7 + 1) s i (bt s i) true = some false := by rw [tinderref05_Named.j2, if_pos rfl]
    have hf : tinderref05_Named.j2 (k + 7 + 1) s i (bt s i) false = some (!badB (bt s i) && ((bytesOf s).drop (i + 1).toNat).all okC) := by
      rw [tinderref05_Named.j2, if_neg (by decide), refbad_go, hw, ih]
      cases badB (bt s i) <;> simp
    rw [show okC (bt s i) = (decide (33 ≤ bt s i) && decide (bt s i ≤ 126) && !(decide (65 ≤ bt s i) && decide (bt s i ≤ 90)) && !badB (bt s i)) from rfl]
    by_cases h2 : bt s i < 33
    · rw [if_pos h2, ht]
      simp [show ¬ 33 ≤ bt s i by omega]
    · rw [if_neg h2]
      by_cases h3 : bt s i > 126
      · rw [if_pos h3, ht]
        simp [show ¬ bt s i ≤ 126 by omega]
      · rw [if_neg h3]
        by_cases h4 : bt s i ≥ 65
        · rw [if_pos h4]
          by_cases h5 : bt s i ≤ 90
          · rw [decide_eq_true h5, ht]
            simp [h5, show 65 ≤ bt s i by omega]
          · rw [decide_eq_false h5, hf]
            simp [h5, show 33 ≤ bt s i by omega, show bt s i ≤ 126 by omega]
        · rw [if_neg h4, hf]
          simp [show ¬ 65 ≤ bt s i by omega, show 33 ≤ bt s i by omega, show bt s i ≤ 126 by omega]
theorem refnamed_eq (k : Nat) (hk : 400 ≤ k) (s : ByteArray) : tinderref05_Named.f k s = some (namedF s) := by
  obtain ⟨k, rfl⟩ : ∃ m, k = m + 1 := ⟨k - 1, by omega⟩
  unfold tinderref05_Named.f namedF
  by_cases h0 : s.size = 0
  · rw [if_pos (by omega), tinderref05_Named.j0, if_pos rfl]
    simp [h0]
  · rw [if_neg (by omega), tinderref05_Named.j0]
    by_cases h1 : (s.size : Int) > 31
    · rw [decide_eq_true h1, if_pos rfl]
      simp [show ¬ s.size ≤ 31 by omega]
    · rw [decide_eq_false h1, if_neg (by decide), refnamed_go s (by omega) s.size k 0 (Int.le_refl 0) (by omega) (by omega)]
      simp [show 1 ≤ s.size by omega, show s.size ≤ 31 by omega]
end Go.Proofs.YtlhnaplmphdhlaaDoor.Q
end
section
set_option linter.unusedSimpArgs false
set_option linter.unusedVariables false
namespace Go.Proofs.YtlhnaplmphdhlaaDoor.Q
open Go.RowKit Go.Proofs.YtlhnaplmphdhlaaDoorW.PrintWords Go.Proofs.YtlhnaplmphdhlaaDoorW.PrintLast
theorem unit_1f0 : unitF (⟨#[49, 102, 44, 48]⟩ : ByteArray) = ([31, 0], 0) := by kernel_rfl
theorem enc_ab : encF (⟨#[97, 98]⟩ : ByteArray) = ([97, 98, 0], 0) := by kernel_rfl
theorem named_ab : namedF (⟨#[97, 98]⟩ : ByteArray) = true := by kernel_rfl
theorem exec_string {w : World} {A : Option Addr} {n c : Nat} {l : List Int} {a : Act} {o : Oper} {x : Operand} (ho : o.op = .convert 25 9 x) (hx : a.eval x = .slice A n c) (hC : Kd.C (Kd.int .u8) w A n l) : (execOp a.eval o).run Tryd.prog w = .ok (.value (.string (strOfNums l))) w := by
  have hr : (convert 25 9 (.slice A n c)).run Tryd.prog w = .ok (.string (strOfNums l)) w := Kd.C_string Tryd.underlying25 Tryd.underlying5 Tryd.underlying9 hC
  simp only [execOp, ho, hx]
  rw [Sem.run_bind, hr]
  rfl
theorem cell_first {W : World} {A : Addr} {n : Nat} {x : Int} {l : List Int} (h : Kd.C (Kd.int .u32) W (some A) n (x :: l)) : W.cell? A = some (.int .u32 x) := by
  obtain ⟨ad, cs, hA, _, hK, hcell⟩ := ReadsRow.get_ h 0 0 (by decide) (by have := h.1; simp at this; omega)
  injection hA with hA
  subst hA
  obtain rfl : cs = [.int .u32 x] := hK
  have h2 := hcell 0 _ rfl
  rw [show (0 : Int).toNat * (Kd.int .u32).sz + 0 = 0 by rfl, Addr_add_zero] at h2
  exact h2
set_option maxRecDepth 100000 in
set_option maxHeartbeats 4000000 in
theorem alive_calls (w : World) : Calls Tryd.prog 14 #[] w fun e w' => e = .returned (.bool true) ∧ Below w.heap.size w w' := by
  have HU := Aside0.mk (show ∀ W : World, Calls Tryd.prog 35 #[.string ⟨#[49, 102, 44, 48]⟩] W (fun e w' => ∃ A c, e = .returned (.tuple #[.slice (some A) 2 c, .int .i64 0]) ∧ 2 ≤ c ∧ Kd.C (Kd.int .u32) w' (some A) 2 [31, 0] ∧ Below W.heap.size W w') from fun W => by
    have h := unit_calls ⟨#[49, 102, 44, 48]⟩ W (by decide)
    rw [unit_1f0] at h
    refine h.mono ?_
    rintro e w' ⟨v, rfl, hR, hb⟩
    obtain ⟨A, c, rfl, hc, hC⟩ := Kd.R_reads hR
    obtain ⟨ad, rfl, _⟩ := hC.2.2 (by decide)
    exact ⟨ad, c, rfl, hc, hC, hb⟩)
  have HE := Aside0.mk (show ∀ W : World, Calls Tryd.prog 17 #[.string ⟨#[97, 98]⟩] W (fun e w' => ∃ A c, e = .returned (.tuple #[.slice A 3 c, .int .i64 0]) ∧ 3 ≤ c ∧ Kd.C (Kd.int .u8) w' A 3 [97, 98, 0] ∧ Below W.heap.size W w') from fun W => by
    have h := enc_calls ⟨#[97, 98]⟩ W
    rw [enc_ab] at h
    exact h)
  have HN := Aside0.mk (show ∀ W : World, Calls Tryd.prog 15 #[.string ⟨#[97, 98]⟩] W (fun e w' => e = .returned (.bool true) ∧ Below W.heap.size W w') from fun W => by
    refine (prop_Named.calls 100 ⟨#[97, 98]⟩ true W (by rw [named_eq 100 (by decide), named_ab])).mono ?_
    rintro e w' ⟨rfl, hb⟩
    exact ⟨rfl, hb⟩)
  have d1 : ((strOfNums [97, 98, 0]).toList == ([97, 98, 0] : List UInt8)) = true := by kernel_rfl
  go_enter Tryd.func14, Tryd.ntmps14
  go_wp2_with (first
    | (go_at_call 35; (with_reducible refine (HU.out _).mono ?_); rintro e w1 ⟨A, c, rfl, hc, hC, hb⟩; have HC1 := Aside0.mk hC; have HB1 := Aside0.mk hb; clear hC hb hc)
    | (go_at_call 17; (with_reducible refine (HE.out _).mono ?_); rintro e w2 ⟨A2, c2, rfl, hc2, hC2, hb⟩; have HC2 := Aside0.mk hC2; have HB2 := Aside0.mk (below_step HB1.out hb); have hcell := cell_first (Kd.C_below HC1.out hb); clear hC2 hb hc2)
    | ((with_reducible refine gate_dst (N := 32) rfl ?_); refine gate_guard (by rfl) ?_; refine Kd.event_run rfl (exec_string rfl rfl HC2.out) ?_)
    | (go_at_call 15; (with_reducible refine (HN.out _).mono ?_); rintro e w3 ⟨rfl, hb⟩; have HB3 := Aside0.mk (below_step HB2.out hb); clear hb))
  go_ret
  exact ⟨rfl, HB3.out⟩
def tinderlaw05_alive.f : Option Bool := some true
theorem tinderlaw05_alive.calls (r : Bool) (w : World) (h : tinderlaw05_alive.f = some r) : Calls Tryd.prog 14 #[] w fun e w' => e = .returned (.bool r) ∧ Below w.heap.size w w' := by
  obtain rfl := Option.some.inj h
  exact alive_calls w
end Go.Proofs.YtlhnaplmphdhlaaDoor.Q
end
section
namespace Go.Proofs.YtlhnaplmphdhlaaDoor.Q
open Go.RowKit Go.Proofs.YtlhnaplmphdhlaaDoorW.PrintWords Go.Proofs.YtlhnaplmphdhlaaDoorW.PrintLast Go.Proofs.YtlhnaplmphdhlaaDoorW.PrintMore
set_option linter.unusedVariables false
set_option linter.unusedSimpArgs false

attribute [local go_sem] max2_int min2_int max_two min_two max_three min_three max_four min_four
/-! ### tinderlaw05_PropNames: function 3 -/
def tinderlaw05_PropNames.f (k : Nat) (a0 : ByteArray) : Option (Bool) := (tinderlaw05_alive.f).bind fun t4001 => (if t4001 = true then ((prop_Named.f k a0).bind fun t4002 => ((tinderref05_Named.f k a0).bind fun t4003 => (some (t4002 == t4003)))) else (some false))
theorem tinderlaw05_PropNames.mono : ∀ a0 k, LeO (tinderlaw05_PropNames.f k a0) (tinderlaw05_PropNames.f (k + 1) a0) := by
  intro a0 k
  unfold tinderlaw05_PropNames.f
  repeat' first
      | (with_reducible exact prop_Named.mono _ _)
      | (with_reducible exact tinderref05_Named.mono _ _)
      | (with_reducible exact LeO.refl _)
      | (with_reducible exact LeO.none _)
      | (with_reducible refine LeO.ite ?_ ?_)
      | (with_reducible refine LeO.bind ?_ (fun _ => ?_))
      | exact prop_Named.mono _ _
      | exact tinderref05_Named.mono _ _
      | exact LeO.none _
      | refine LeO.ite ?_ ?_
      | refine LeO.bind ?_ (fun _ => ?_)
set_option maxHeartbeats 8000000 in
set_option maxRecDepth 100000 in
theorem tinderlaw05_PropNames.calls (k : Nat) (a0 : ByteArray) (r : Bool) (w : World) (h : tinderlaw05_PropNames.f k a0 = some r) :
    Calls Tryd.prog 3 #[.string a0] w fun e w' => e = .returned (.bool r) ∧ Below w.heap.size w w' := by
  have HB := Aside0.mk (Below.refl w.heap.size w)
  have H : ((tinderlaw05_alive.f).bind fun t4001 => (if t4001 = true then ((prop_Named.f k a0).bind fun t4002 => ((tinderref05_Named.f k a0).bind fun t4003 => (some (t4002 == t4003)))) else (some false))) = some r := h
  clear h
  replace H := Option.bind_eq_some_iff.mp H
  obtain ⟨t4001, A20, H⟩ := H
  replace H : (if t4001 = true then ((prop_Named.f k a0).bind fun t4002 => ((tinderref05_Named.f k a0).bind fun t4003 => (some (t4002 == t4003)))) else (some false)) = some r := H
  have A2 := Aside0.mk A20
  clear A20
  by_cases c3 : t4001 = true
  · subst c3
    have H1 : ((prop_Named.f k a0).bind fun t4002 => ((tinderref05_Named.f k a0).bind fun t4003 => (some (t4002 == t4003)))) = some r := by rw [if_pos rfl] at H; exact H
    clear H
    have H := H1
    clear H1
    replace H := Option.bind_eq_some_iff.mp H
    obtain ⟨t4002, A40, H⟩ := H
    replace H : ((tinderref05_Named.f k a0).bind fun t4003 => (some (t4002 == t4003))) = some r := H
    have A4 := Aside0.mk A40
    clear A40
    replace H := Option.bind_eq_some_iff.mp H
    obtain ⟨t4003, A50, H⟩ := H
    replace H : (some (t4002 == t4003)) = some r := H
    have A5 := Aside0.mk A50
    clear A50
    obtain rfl := Option.some.inj H
    go_enter Tryd.func3, Tryd.ntmps3
    go_wp2_with (first | ((with_reducible refine gate_callee (f := 14) rfl ?_); refine goesL_ (some 3) rfl rfl Tryd.func14 (by kernel_rfl) rfl #[] rfl (by (try simp only [List.map_toArray, List.map_cons, List.map_nil]); first | done | rfl | (simp only [List.length_drop, List.length_take]; rfl)) ?_; (with_reducible refine (tinderlaw05_alive.calls  true _ A2.out).mono ?_); rintro e w6 ⟨rfl, hb⟩; refine ⟨_, rfl, ?_⟩; have n0_ := Aside0.mk (below_step (by repeat (first | (with_reducible first | exact HB.out | apply below_alloc | apply pw_below_drewN | apply below_drew1) | exact HB.out)) hb); clear HB; have HB := n0_; clear n0_; (try clear hb); (try clear hb2); (try clear hk); (try clear hi)) | (go_at_call 15; (with_reducible refine (prop_Named.calls k a0 t4002 _ A4.out).mono ?_); rintro e w7 ⟨rfl, hb⟩; have n0_ := Aside0.mk (below_step (by repeat (first | (with_reducible first | exact HB.out | apply below_alloc | apply pw_below_drewN | apply below_drew1) | exact HB.out)) hb); clear HB; have HB := n0_; clear n0_; (try clear hb); (try clear hb2); (try clear hk); (try clear hi)) | (go_at_call 16; (with_reducible refine (tinderref05_Named.calls k a0 t4003 _ A5.out).mono ?_); rintro e w' ⟨rfl, ⟨nd, rfl⟩⟩))
    go_ret
    exact ⟨by first | rfl | (simp [errW_none, errW_some] <;> rfl) | (simp [*, errW_none, errW_some] <;> rfl), by repeat (first | (with_reducible first | exact HB.out | apply below_alloc | apply pw_below_drewN | apply below_drew1) | exact HB.out)⟩
  · replace c3 := Bool.eq_false_iff.mpr c3
    subst c3
    have H1 : (some false) = some r := by rw [if_neg (show ¬ (false = true) by decide)] at H; exact H
    clear H
    have H := H1
    clear H1
    obtain rfl := Option.some.inj H
    go_enter Tryd.func3, Tryd.ntmps3
    go_wp2_with (first | ((with_reducible refine gate_callee (f := 14) rfl ?_); refine goesL_ (some 3) rfl rfl Tryd.func14 (by kernel_rfl) rfl #[] rfl (by (try simp only [List.map_toArray, List.map_cons, List.map_nil]); first | done | rfl | (simp only [List.length_drop, List.length_take]; rfl)) ?_; (with_reducible refine (tinderlaw05_alive.calls  false _ A2.out).mono ?_); rintro e w8 ⟨rfl, hb⟩; refine ⟨_, rfl, ?_⟩; have n0_ := Aside0.mk (below_step (by repeat (first | (with_reducible first | exact HB.out | apply below_alloc | apply pw_below_drewN | apply below_drew1) | exact HB.out)) hb); clear HB; have HB := n0_; clear n0_; (try clear hb); (try clear hb2); (try clear hk); (try clear hi)))
    go_ret
    exact ⟨by first | rfl | (simp [errW_none, errW_some] <;> rfl) | (simp [*, errW_none, errW_some] <;> rfl), by repeat (first | (with_reducible first | exact HB.out | apply below_alloc | apply pw_below_drewN | apply below_drew1) | exact HB.out)⟩

/-- THE ONE PURE STATEMENT of tinderlaw05_PropNames: yours. -/
def tinderlaw05_PropNames.Pure : Prop := ∀ (a0 : ByteArray), a0.size ≤ 140737488351232 → ∃ k, tinderlaw05_PropNames.f k a0 = some true
theorem tinderlaw05_PropNames.walk (P : tinderlaw05_PropNames.Pure) (a0 : ByteArray) (w : World) (w0 : a0.size ≤ 140737488351232) :
    Calls Tryd.prog 3 #[.string a0] w fun e w' => e = .returned (.bool true) ∧ Below w.heap.size w w' := by
  obtain ⟨k, h⟩ := P a0 w0
  refine (tinderlaw05_PropNames.calls k a0 true w h).mono ?_
  rintro e w' ⟨rfl, hd⟩
  exact ⟨rfl, hd⟩

end Go.Proofs.YtlhnaplmphdhlaaDoor.Q
end
section
namespace Go.Proofs.YtlhnaplmphdhlaaDoor.Q
open Go.RowKit Go.Proofs.YtlhnaplmphdhlaaDoorW.PrintWords Go.Proofs.YtlhnaplmphdhlaaDoorW.PrintLast Go.Proofs.YtlhnaplmphdhlaaDoorW.PrintMore
set_option linter.unusedVariables false
set_option linter.unusedSimpArgs false

attribute [local go_sem] max2_int min2_int max_two min_two max_three min_three max_four min_four
/-! ### tinderref05_EncodeInt: function 21 -/
def tinderref05_EncodeInt.l0 : Nat → Int → List Int → Int → Option (List Int)
  | 0, _, _, _ => none
  | k + 1, x0, x3, x4 => if x4 ≥ 0 then (if 0 ≤ (IntKind.u64.wrap (wrap64 (8 * x4))) then (if x3.length < 140737488355328 then (tinderref05_EncodeInt.l0 k x0 (x3 ++ [(Int.tmod (shr .u32 x0 (IntKind.u64.wrap (wrap64 (8 * x4)))) 256) % 256]) (wrap64 (x4 - 1))) else (none)) else (none)) else (some x3)
def tinderref05_EncodeInt.f (k : Nat) (a0 : Int) : Option (List Int) := tinderref05_EncodeInt.l0 k a0 ([] : List Int) 3
theorem tinderref05_EncodeInt.mono_l : ∀ k, (∀ y0 y1 y2, LeO (tinderref05_EncodeInt.l0 k y0 y1 y2) (tinderref05_EncodeInt.l0 (k + 1) y0 y1 y2))
  | 0 => fun _ _ _ r h => by simp [tinderref05_EncodeInt.l0] at h
  | k + 1 => by
    have ih0 := tinderref05_EncodeInt.mono_l k
    · intro y0 y1 y2
      unfold tinderref05_EncodeInt.l0
      repeat' first
      | (with_reducible exact ih0 _ _ _)
      | (with_reducible exact LeO.refl _)
      | (with_reducible exact LeO.none _)
      | (with_reducible refine LeO.ite ?_ ?_)
      | (with_reducible refine LeO.bind ?_ (fun _ => ?_))
      | exact ih0 _ _ _
      | exact LeO.none _
      | refine LeO.ite ?_ ?_
      | refine LeO.bind ?_ (fun _ => ?_)
theorem tinderref05_EncodeInt.mono : ∀ a0 k, LeO (tinderref05_EncodeInt.f k a0) (tinderref05_EncodeInt.f (k + 1) a0) := by
  intro a0 k
  have ih0 := tinderref05_EncodeInt.mono_l k
  unfold tinderref05_EncodeInt.f
  repeat' first
      | (with_reducible exact ih0 _ _ _)
      | (with_reducible exact LeO.refl _)
      | (with_reducible exact LeO.none _)
      | (with_reducible refine LeO.ite ?_ ?_)
      | (with_reducible refine LeO.bind ?_ (fun _ => ?_))
      | exact ih0 _ _ _
      | exact LeO.none _
      | refine LeO.ite ?_ ?_
      | refine LeO.bind ?_ (fun _ => ?_)
set_option maxHeartbeats 8000000 in
set_option maxRecDepth 100000 in
theorem tinderref05_EncodeInt.calls (k : Nat) (a0 : Int) (r : List Int) (w : World) (h : tinderref05_EncodeInt.f k a0 = some r) :
    Calls Tryd.prog 21 #[.int .u32 a0] w fun e w' => ∃ v0_ : Value, e = .returned (v0_) ∧ Kd.R (Kd.int .u8) 5 w' w.heap.size (fun _ => True) v0_ r ∧ Below w.heap.size w w' := by
  have HB := Aside0.mk (Below.refl w.heap.size w)
  have H : (tinderref05_EncodeInt.l0 k a0 ([] : List Int) 3) = some r := h
  clear h
  have H' := Aside0.mk H
  clear H
  go_enter Tryd.func21, Tryd.ntmps21
  go_wp2
  go_loopg [3, 4] k (fun kq v3 v4 w' => ∃ (x3_1 : List Int) (x4_1 : Int), v4 = .int .i64 x4_1 ∧ Aside0 (tinderref05_EncodeInt.l0 kq a0 x3_1 x4_1 = some r) ∧ Aside0 (kq ≤ k) ∧ Aside0 (Kd.R (Kd.int .u8) 5 w' w.heap.size (fun _ => True) v3 x3_1) ∧ Aside0 (Below w.heap.size w w'))
  case atStart => exact ⟨(([] : List Int)), (3), (by first | rfl | (simp; done) | (simp [*]; done)), H', ⟨Nat.le_refl _⟩, ⟨by first | exact Kd.R_nil _ _ _ _ _ | exact Kd.N_nil _ _ _ _ _ | exact Kd.V_nil _ _ _ _ _ | exact Kd.Q_nil _ _ _ _ _ | exact Kd.S_nil _ _ _ _ _⟩, ⟨by repeat (first | (with_reducible first | exact HB.out | apply below_alloc | apply pw_below_drewN | apply below_drew1) | exact HB.out)⟩⟩
  case round =>
    clear H'
    obtain ⟨x3_1, x4_1, rfl, HA, HK1, HO_3, HB⟩ := hrel
    cases gk with
    | zero => exact absurd HA.out (by simp [tinderref05_EncodeInt.l0])
    | succ k1 =>
      have H := HA.out
      clear HA
      simp only [tinderref05_EncodeInt.l0] at H
      by_cases c2 : x4_1 ≥ 0
      · rw [if_pos c2] at H
        have c2b0 : decide (0 ≤ x4_1) = true := decide_eq_true c2
        clear c2
        obtain ⟨ji3, hji3⟩ : ∃ j_ : Int, (IntKind.u64.wrap (wrap64 (8 * x4_1))) = j_ := ⟨_, rfl⟩
        replace H : (if 0 ≤ (ji3) then (if x3_1.length < 140737488355328 then (tinderref05_EncodeInt.l0 k1 a0 (x3_1 ++ [(Int.tmod (shr .u32 a0 (ji3)) 256) % 256]) (wrap64 (x4_1 - 1))) else (none)) else (none)) = some r := by first | (rw [hji3] at H; exact H) | (simp only [hji3] at H ⊢; exact H)
        by_cases c4 : 0 ≤ (ji3)
        · rw [if_pos c4] at H
          have c4b0 := eq_true c4
          have c4b1 : decide (0 ≤ (ji3)) = true := decide_eq_true c4
          clear c4
          obtain ⟨ji5, hji5⟩ : ∃ j_ : Int, (shr .u32 a0 (ji3)) = j_ := ⟨_, rfl⟩
          replace H : (if x3_1.length < 140737488355328 then (tinderref05_EncodeInt.l0 k1 a0 (x3_1 ++ [(Int.tmod (ji5) 256) % 256]) (wrap64 (x4_1 - 1))) else (none)) = some r := by first | (rw [hji5] at H; exact H) | (simp only [hji5] at H ⊢; exact H)
          have hji5_ : (a0 / 2 ^ min (ji3).toNat 32) = ji5 := hji5
          have hji5z : (ji3) ≤ 32 → (a0 / 2 ^ (ji3).toNat) = ji5 := shr_small hji5
          by_cases c6 : x3_1.length < 140737488355328
          · rw [if_pos c6] at H
            have LMc6 := Aside0.mk c6
            clear c6
            obtain ⟨y22001, hy22001⟩ : ∃ y_ : List Int, y_ = (x3_1 ++ [(Int.tmod (ji5) 256) % 256]) := ⟨_, rfl⟩
            replace H : (tinderref05_EncodeInt.l0 k1 a0 y22001 (wrap64 (x4_1 - 1))) = some r := by first | (rw [hy22001]; with_reducible exact H) | (have H2_ := (Option.bind_some _ _).symm.trans H; rw [hy22001]; with_reducible exact H2_) | (have H2_ := (Option.bind_some _ _).symm.trans H; with_reducible exact H2_) | with_reducible exact H | (rw [hy22001]; exact H) | exact H
            have Ny22001 := Aside0.mk hy22001
            clear hy22001
            have H' := Aside0.mk H
            clear H
            go_wp2_with (first | ((with_reducible refine gate_builtin (b := .append) (xs := #[.tmp 9, .tmp 17]) rfl ?_); at_builtin; refine Kd.R_append (Kd.int .u8) (w0 := w) w.heap.size rfl (.tmp 9) (.tmp 17) 25 5 (.int .u8 0) 1 rfl Tryd.underlying25 info5 rfl (by decide) (by omega) u3 x3_1 ((Int.tmod (ji5) 256) % 256) [.int .u8 ((Int.tmod (ji5) 256) % 256)] (fun _ => True) (fun _ => False) rfl rfl ?aP (fun _ hk => hk.elim) ?aF ?aO ?aB ?aS ?aL ?_; (case aP => exact rfl); (case aB => exact (by repeat (first | (with_reducible first | exact HB.out | apply below_alloc | apply pw_below_drewN | apply below_drew1) | exact HB.out))); (case aF => exact (fun _ _ => trivial)); (case aO => exact (by (with_reducible repeat (first | apply Kd.R_alloc | apply Kd.R_drewN | apply Kd.R_drew)); exact HO_3.out)); (case aS => exact (below_size (by repeat (first | (with_reducible first | exact HB.out | apply below_alloc | apply pw_below_drewN | apply below_drew1) | exact HB.out)))); (case aL => have := LMc6.out; omega); intro v22002 w7 ho hb hg hat; rw [← Ny22001.out] at ho; have n0_ := Aside0.mk (hb); have n1_ := Aside0.mk (ho); clear HB; clear HO_3; have HB := n0_; have HO22003 := n1_; clear n0_ n1_; clear ho hb hg hat))
            go_roundg k1
            case measure => have := HK1.out; omega
            case rel => exact ⟨(y22001), (wrap64 (x4_1 - 1)), (by first | rfl | (simp; done) | (simp [*]; done)), H', ⟨by have := HK1.out; omega⟩, ⟨by (with_reducible repeat (first | apply Kd.R_alloc | apply Kd.R_drewN | apply Kd.R_drew)); exact HO22003.out⟩, ⟨by repeat (first | (with_reducible first | exact HB.out | apply below_alloc | apply pw_below_drewN | apply below_drew1) | exact HB.out)⟩⟩
          · rw [if_neg c6] at H
            exact absurd H (by simp)
        · rw [if_neg c4] at H
          exact absurd H (by simp)
      · rw [if_neg c2] at H
        have c2b0 : decide (0 ≤ x4_1) = false := decide_eq_false c2
        clear c2
        obtain rfl := Option.some.inj H
        go_wp2
        go_ret
        exact ⟨_, by first | rfl | (simp [errW_none, errW_some] <;> rfl) | (simp [*, errW_none, errW_some] <;> rfl), by (with_reducible repeat (first | apply Kd.R_alloc | apply Kd.R_drewN | apply Kd.R_drew)); exact HO_3.out, by repeat (first | (with_reducible first | exact HB.out | apply below_alloc | apply pw_below_drewN | apply below_drew1) | exact HB.out)⟩

end Go.Proofs.YtlhnaplmphdhlaaDoor.Q
end
section
namespace Go.Proofs.YtlhnaplmphdhlaaDoor.Q
open Go.RowKit Go.Proofs.YtlhnaplmphdhlaaDoorW.PrintWords Go.Proofs.YtlhnaplmphdhlaaDoorW.PrintLast Go.Proofs.YtlhnaplmphdhlaaDoorW.PrintMore
set_option linter.unusedVariables false
set_option linter.unusedSimpArgs false

attribute [local go_sem] max2_int min2_int max_two min_two max_three min_three max_four min_four
/-! ### prop_EncodeInt: function 20 -/
def prop_EncodeInt.f (a0 : Int) : Option (List Int) := some (([(a0 / 16777216) % 256, (a0 / 65536) % 256, (a0 / 256) % 256, (a0) % 256] : List Int))
set_option maxHeartbeats 8000000 in
set_option maxRecDepth 100000 in
theorem prop_EncodeInt.calls (a0 : Int) (r : List Int) (w : World) (h : prop_EncodeInt.f a0 = some r) :
    Calls Tryd.prog 20 #[.int .u32 a0] w fun e w' => ∃ v0_ : Value, e = .returned (v0_) ∧ Kd.R (Kd.int .u8) 5 w' w.heap.size (fun _ => True) v0_ r ∧ Below w.heap.size w w' := by
  have HB := Aside0.mk (Below.refl w.heap.size w)
  have H : (some (([(a0 / 16777216) % 256, (a0 / 65536) % 256, (a0 / 256) % 256, (a0) % 256] : List Int))) = some r := h
  clear h
  obtain ⟨y21001, hy21001⟩ : ∃ y_ : List Int, y_ = (([(a0 / 16777216) % 256, (a0 / 65536) % 256, (a0 / 256) % 256, (a0) % 256] : List Int)) := ⟨_, rfl⟩
  replace H : (some y21001) = some r := by first | (rw [hy21001]; with_reducible exact H) | (have H2_ := (Option.bind_some _ _).symm.trans H; rw [hy21001]; with_reducible exact H2_) | (have H2_ := (Option.bind_some _ _).symm.trans H; with_reducible exact H2_) | with_reducible exact H | (rw [hy21001]; exact H) | exact H
  have Ny21001 := Aside0.mk hy21001
  clear hy21001
  obtain rfl := Option.some.inj H
  go_enter Tryd.func20, Tryd.ntmps20
  go_wp2_with (first | ((with_reducible refine gate_dst (N := 14) rfl ?_); refine Kd.R_lit (Kd.int .u8) _ 5 ?hg (N := 14) ?hd (xs := ([(a0 / 16777216) % 256, (a0 / 65536) % 256, (a0 / 256) % 256, (a0) % 256] : List Int)) (inner := [.int .u8 ((a0 / 16777216) % 256), .int .u8 ((a0 / 65536) % 256), .int .u8 ((a0 / 256) % 256), .int .u8 ((a0) % 256)]) (ok := fun _ => True) (okp := fun _ => True) ?hr ?hp (fun _ hk => hk) trivial (Below.refl _ _) (Nat.le_refl _) (by simp) ?_; (case hd => rfl); (case hg => rfl); (case hr => first | (go_simp; done) | (go_simp; rfl)); (case hp => exact (Reps.one (show Kd.M (Kd.int .u8) _ _ _ ((a0 / 16777216) % 256) [.int .u8 ((a0 / 16777216) % 256)] from rfl) (Reps.one (show Kd.M (Kd.int .u8) _ _ _ ((a0 / 65536) % 256) [.int .u8 ((a0 / 65536) % 256)] from rfl) (Reps.one (show Kd.M (Kd.int .u8) _ _ _ ((a0 / 256) % 256) [.int .u8 ((a0 / 256) % 256)] from rfl) (Reps.one (show Kd.M (Kd.int .u8) _ _ _ ((a0) % 256) [.int .u8 ((a0) % 256)] from rfl) (Reps.none _ _)))))); intro v21002 w2 ho3 hb hg_ hnew_; clear hg_ hnew_; (first | rw [← Ny21001.out] at ho3 | (simp only [Int.reduceToNat] at ho3; rw [← Ny21001.out] at ho3)); have n0_ := Aside0.mk (Kd.R_lower ho3 (below_size (by repeat (first | (with_reducible first | exact HB.out | apply below_alloc | apply pw_below_drewN | apply below_drew1) | exact HB.out)))); have n1_ := Aside0.mk (below_step (by repeat (first | (with_reducible first | exact HB.out | apply below_alloc | apply pw_below_drewN | apply below_drew1) | exact HB.out)) hb); clear HB; have HO21003 := n0_; have HB := n1_; clear n0_ n1_; clear hb ho3))
  go_ret
  exact ⟨_, by first | rfl | (simp [errW_none, errW_some] <;> rfl) | (simp [*, errW_none, errW_some] <;> rfl), by (with_reducible repeat (first | apply Kd.R_alloc | apply Kd.R_drewN | apply Kd.R_drew)); exact HO21003.out, by repeat (first | (with_reducible first | exact HB.out | apply below_alloc | apply pw_below_drewN | apply below_drew1) | exact HB.out)⟩

end Go.Proofs.YtlhnaplmphdhlaaDoor.Q
end
section
namespace Go.Proofs.YtlhnaplmphdhlaaDoor.Q
open Go.RowKit Go.Proofs.YtlhnaplmphdhlaaDoorW.PrintWords Go.Proofs.YtlhnaplmphdhlaaDoorW.PrintLast Go.Proofs.YtlhnaplmphdhlaaDoorW.PrintMore
set_option linter.unusedVariables false
set_option linter.unusedSimpArgs false

attribute [local go_sem] max2_int min2_int max_two min_two max_three min_three max_four min_four
/-! ### tinderref04_Same: function 19 -/
def tinderref04_Same.f (l0 : List Int) (l1 : List Int) : Option (Bool) := some ((strOfNums l0).toList == (strOfNums l1).toList)
set_option maxHeartbeats 8000000 in
set_option maxRecDepth 100000 in
theorem tinderref04_Same.calls (A0 : Option Addr) (c0 : Nat) (l0 : List Int) (A1 : Option Addr) (c1 : Nat) (l1 : List Int) (r : Bool) (w : World) (hr0 : Kd.C (Kd.int .u8) w A0 l0.length l0) (hc0 : l0.length ≤ c0) (hr1 : Kd.C (Kd.int .u8) w A1 l1.length l1) (hc1 : l1.length ≤ c1) (h : tinderref04_Same.f l0 l1 = some r) :
    Calls Tryd.prog 19 #[.slice A0 l0.length c0, .slice A1 l1.length c1] w fun e w' => e = .returned (.bool r) ∧ Drawn0 w w' := by
  have HR0 := Aside0.mk hr0
  have HC0 := Aside0.mk hc0
  clear hr0 hc0
  have HR1 := Aside0.mk hr1
  have HC1 := Aside0.mk hc1
  clear hr1 hc1
  have H : (some ((strOfNums l0).toList == (strOfNums l1).toList)) = some r := h
  clear h
  obtain rfl := Option.some.inj H
  have hcv3 := Kd.C_string (P := Tryd.prog) (A := A0) (c := c0) Tryd.underlying25 Tryd.underlying5 Tryd.underlying9 HR0.out
  have hcv4 := Kd.C_string (P := Tryd.prog) (A := A1) (c := c1) Tryd.underlying25 Tryd.underlying5 Tryd.underlying9 HR1.out
  go_enter Tryd.func19, Tryd.ntmps19
  go_wp2
  go_ret
  exact ⟨by first | rfl | (simp; done) | (simp [*]; done), by repeat (first | exact Drawn0.refl _ | apply Drawn0.step)⟩

end Go.Proofs.YtlhnaplmphdhlaaDoor.Q
end
section
set_option linter.unusedSimpArgs false
set_option linter.unusedVariables false
namespace Go.Proofs.YtlhnaplmphdhlaaDoor.Q
open Go.RowKit Go.Proofs.YtlhnaplmphdhlaaDoorW.PrintWords Go.Proofs.YtlhnaplmphdhlaaDoorW.PrintLast
def fourF (a : Int) : List Int := [(a / 16777216) % 256, (a / 65536) % 256, (a / 256) % 256, a % 256]
theorem refEnc_eq (a : Int) (h0 : 0 ≤ a) (h1 : a < 4294967296) : tinderref05_EncodeInt.f 5 a = some (fourF a) := by
  have q3 : IntKind.u64.wrap (wrap64 (8 * 3)) = 24 := by kernel_rfl
  have q2 : IntKind.u64.wrap (wrap64 (8 * 2)) = 16 := by kernel_rfl
  have q1 : IntKind.u64.wrap (wrap64 (8 * 1)) = 8 := by kernel_rfl
  have q0 : IntKind.u64.wrap (wrap64 (8 * 0)) = 0 := by kernel_rfl
  have s3 : wrap64 (3 - 1) = 2 := by kernel_rfl
  have s2 : wrap64 (2 - 1) = 1 := by kernel_rfl
  have s1 : wrap64 (1 - 1) = 0 := by kernel_rfl
  have s0 : wrap64 (0 - 1) = -1 := by kernel_rfl
  have e3 : Int.tmod (shr .u32 a 24) 256 % 256 = a / 16777216 % 256 := by rw [show shr .u32 a 24 = a / 16777216 from rfl, Int.tmod_eq_emod_of_nonneg (by omega)]; omega
  have e2 : Int.tmod (shr .u32 a 16) 256 % 256 = a / 65536 % 256 := by rw [show shr .u32 a 16 = a / 65536 from rfl, Int.tmod_eq_emod_of_nonneg (by omega)]; omega
  have e1 : Int.tmod (shr .u32 a 8) 256 % 256 = a / 256 % 256 := by rw [show shr .u32 a 8 = a / 256 from rfl, Int.tmod_eq_emod_of_nonneg (by omega)]; omega
  have e0 : Int.tmod (shr .u32 a 0) 256 % 256 = a % 256 := by rw [show shr .u32 a 0 = a / 1 from rfl, Int.tmod_eq_emod_of_nonneg (by omega)]; omega
  unfold tinderref05_EncodeInt.f
  unfold tinderref05_EncodeInt.l0
  rw [if_pos (by decide), q3, if_pos (by decide), if_pos (by decide), e3, s3]
  unfold tinderref05_EncodeInt.l0
  rw [if_pos (by decide), q2, if_pos (by decide), if_pos (by simp), e2, s2]
  unfold tinderref05_EncodeInt.l0
  rw [if_pos (by decide), q1, if_pos (by decide), if_pos (by simp), e1, s1]
  unfold tinderref05_EncodeInt.l0
  rw [if_pos (by decide), q0, if_pos (by decide), if_pos (by simp), e0, s0]
  unfold tinderref05_EncodeInt.l0
  rw [if_neg (by decide)]
  rfl
theorem same_at (A : Option Addr) (c n : Nat) (B : Option Addr) (d : Nat) (L : List Int) (W : World) (hn : L.length = n) (h1 : Kd.C (Kd.int .u8) W A n L) (hc : n ≤ c) (h2 : Kd.C (Kd.int .u8) W B n L) (hd : n ≤ d) :
    Calls Tryd.prog 19 #[.slice A n c, .slice B n d] W fun e w' => e = .returned (.bool true) ∧ Below W.heap.size W w' := by
  subst hn
  refine (tinderref04_Same.calls A c L B d L true W h1 hc h2 hd (by unfold tinderref04_Same.f; simp)).mono ?_
  rintro e w' ⟨rfl, h⟩
  exact ⟨rfl, h.below⟩
theorem names_true (s : ByteArray) : tinderlaw05_PropNames.f 400 s = some true := by
  unfold tinderlaw05_PropNames.f tinderlaw05_alive.f
  rw [named_eq 400 (by decide), refnamed_eq 400 (by decide)]
  simp
theorem propNames_row {w : World} (ht : Tabs w) (s : ByteArray) (hs : s.size ≤ 140737488351232) : Calls Tryd.prog 3 #[.string s] w fun e w' => e = .returned (.bool true) ∧ Below w.heap.size w w' := tinderlaw05_PropNames.calls 400 s true w (names_true s)
set_option maxRecDepth 100000 in
set_option maxHeartbeats 4000000 in
theorem propEncodes_row {w : World} (ht : Tabs w) (a : Int) (wa : (Lit.int .u32 a).wf = true) (s : ByteArray) (hs : s.size ≤ 140737488351232) : Calls Tryd.prog 4 #[.int .u32 a, .string s] w fun e w' => e = .returned (.bool true) ∧ Below w.heap.size w w' := by
  clear ht
  simp only [Lit.wf, Bool.and_eq_true, decide_eq_true_eq, show IntKind.u32.min = 0 from rfl, show IntKind.u32.max = 4294967295 from rfl] at wa
  obtain ⟨L, hL⟩ : ∃ L, L = (encF s).1 := ⟨_, rfl⟩
  obtain ⟨e0, he0⟩ : ∃ e0, e0 = (encF s).2 := ⟨_, rfl⟩
  obtain ⟨F, hF⟩ : ∃ F, F = fourF a := ⟨_, rfl⟩
  have HE := Aside0.mk (show ∀ W : World, Calls Tryd.prog 17 #[.string s] W (fun e w' => ∃ A c, e = .returned (.tuple #[.slice A L.length c, .int .i64 e0]) ∧ L.length ≤ c ∧ Kd.C (Kd.int .u8) w' A L.length L ∧ Below W.heap.size W w') from fun W => by rw [hL, he0]; exact enc_calls s W)
  have HF := Aside0.mk (show ∀ W : World, Calls Tryd.prog 18 #[.string s] W (fun e w' => ∃ A c, e = .returned (.tuple #[.slice A L.length c, .int .i64 e0]) ∧ L.length ≤ c ∧ Kd.C (Kd.int .u8) w' A L.length L ∧ Below W.heap.size W w') from fun W => by
    refine (refenc_calls s W hs).mono ?_
    rintro e w' ⟨v, rfl, hR, hb⟩
    rw [← hL] at hR
    obtain ⟨A, c, rfl, hc, hC⟩ := Kd.R_reads hR
    exact ⟨A, c, by rw [he0], hc, hC, hb⟩)
  have H1 := Aside0.mk (show ∀ W : World, Calls Tryd.prog 20 #[.int .u32 a] W (fun e w' => ∃ A c, e = .returned (.slice A 4 c) ∧ 4 ≤ c ∧ Kd.C (Kd.int .u8) w' A 4 F ∧ Below W.heap.size W w') from fun W => by
    refine (prop_EncodeInt.calls a (fourF a) W rfl).mono ?_
    rintro e w' ⟨v, rfl, hR, hb⟩
    rw [← hF] at hR
    obtain ⟨A, c, rfl, hc, hC⟩ := Kd.R_reads hR
    have h4 : F.length = 4 := by rw [hF]; rfl
    rw [h4] at hc hC ⊢
    exact ⟨A, c, rfl, hc, hC, hb⟩)
  have H2 := Aside0.mk (show ∀ W : World, Calls Tryd.prog 21 #[.int .u32 a] W (fun e w' => ∃ A c, e = .returned (.slice A 4 c) ∧ 4 ≤ c ∧ Kd.C (Kd.int .u8) w' A 4 F ∧ Below W.heap.size W w') from fun W => by
    refine (tinderref05_EncodeInt.calls 5 a (fourF a) W (refEnc_eq a wa.1 (by omega))).mono ?_
    rintro e w' ⟨v, rfl, hR, hb⟩
    rw [← hF] at hR
    obtain ⟨A, c, rfl, hc, hC⟩ := Kd.R_reads hR
    have h4 : F.length = 4 := by rw [hF]; rfl
    rw [h4] at hc hC ⊢
    exact ⟨A, c, rfl, hc, hC, hb⟩)
  have HF4 := Aside0.mk (show F.length = 4 by rw [hF]; rfl)
  clear hL he0 hF wa hs
  go_enter Tryd.func4, Tryd.ntmps4
  go_wp2_with (first
    | (go_at_call 14; (with_reducible refine (alive_calls _).mono ?_); rintro e w1 ⟨rfl, hb⟩; have HB1 := Aside0.mk hb; clear hb)
    | (go_at_call 17; (with_reducible refine (HE.out _).mono ?_); rintro e w2 ⟨A2, c2, rfl, hc, hC, hb⟩; have HB2 := Aside0.mk (below_step HB1.out hb); have HC2 := Aside0.mk hC; have HK2 := Aside0.mk hc; clear hc hC hb)
    | (go_at_call 18; (with_reducible refine (HF.out _).mono ?_); rintro e w3 ⟨A3, c3, rfl, hc, hC, hb⟩; have HB3 := Aside0.mk (below_step HB2.out hb); have HC3 := Aside0.mk hC; have HK3 := Aside0.mk hc; have HC23 := Aside0.mk (Kd.C_below HC2.out hb); clear hc hC hb)
    | (go_at_call 20; (with_reducible refine (H1.out _).mono ?_); rintro e w4 ⟨A4, c4, rfl, hc, hC, hb⟩; have HB4 := Aside0.mk (below_step HB3.out hb); have HC4 := Aside0.mk hC; have HK4 := Aside0.mk hc; have HC24 := Aside0.mk (Kd.C_below HC23.out hb); have HC34 := Aside0.mk (Kd.C_below HC3.out hb); clear hc hC hb)
    | (go_at_call 21; (with_reducible refine (H2.out _).mono ?_); rintro e w5 ⟨A5, c5, rfl, hc, hC, hb⟩; have HB5 := Aside0.mk (below_step HB4.out hb); have HC5 := Aside0.mk hC; have HK5 := Aside0.mk hc; have HC25 := Aside0.mk (Kd.C_below HC24.out hb); have HC35 := Aside0.mk (Kd.C_below HC34.out hb); have HC45 := Aside0.mk (Kd.C_below HC4.out hb); clear hc hC hb)
    | (go_at_call 19; (with_reducible refine (same_at _ _ _ _ _ F _ HF4.out HC45.out HK4.out HC5.out HK5.out).mono ?_); rintro e w6 ⟨rfl, hb⟩; have HB6 := Aside0.mk (below_step HB5.out hb); have HC26 := Aside0.mk (Kd.C_below HC25.out hb); have HC36 := Aside0.mk (Kd.C_below HC35.out hb); clear hb; clear HC45)
    | (go_at_call 19; (with_reducible refine (same_at _ _ _ _ _ L _ rfl HC26.out HK2.out HC36.out HK3.out).mono ?_); rintro e w7 ⟨rfl, hb⟩; have HB7 := Aside0.mk (below_step HB6.out hb); clear hb))
  go_ret
  exact ⟨rfl, HB7.out⟩
end Go.Proofs.YtlhnaplmphdhlaaDoor.Q
end
section
namespace Go.Proofs.YtlhnaplmphdhlaaDoor.Q
open Go.RowKit Go.Proofs.YtlhnaplmphdhlaaDoorW.PrintWords Go.Proofs.YtlhnaplmphdhlaaDoorW.PrintLast Go.Proofs.YtlhnaplmphdhlaaDoorW.PrintMore
set_option linter.unusedVariables false
set_option linter.unusedSimpArgs false

attribute [local go_sem] max2_int min2_int max_two min_two max_three min_three max_four min_four
/-! ### prop_DecodeInt: function 31 -/
def prop_DecodeInt.f (l0 : List Int) : Option (Int × List Int × Int) := if (l0.length : Int) < 4 then (some (0, ([] : List Int), 2)) else ((prop_number.f l0).bind fun t32001 => (if 4 ≤ (l0.length : Int) then ((slices_Clone_byte_byte.f (l0.drop 4)).bind fun t32003 => (some (t32001, t32003, 0))) else (none)))
def prop_DecodeInt.T3 : Bool × List (List Nat × List Nat) := (true, [([], []), ([0], [0]), ([], []), ([2], [2]), ([3, 1], [3]), ([1, 4, 0, 1], [1]), ([4, 5, 0, 1, 2, 3, 4, 5], [4]), ([6, 0, 1, 2, 3, 4, 5, 6], [])])
def prop_DecodeInt.B3 : List Nat := [0, 1, 0, 4, 15, 31, 63, 127]
theorem prop_DecodeInt.tab3 : rtab .any (opsOf Tryd.f31 3) = prop_DecodeInt.T3 := by kernel_rfl
theorem prop_DecodeInt.bits3 : waitsOk prop_DecodeInt.T3.2 prop_DecodeInt.B3 = true := by kernel_rfl
set_option maxHeartbeats 8000000 in
set_option maxRecDepth 100000 in
theorem prop_DecodeInt.calls (A0 : Option Addr) (c0 : Nat) (l0 : List Int) (r1 : Int) (r2 : List Int) (r3 : Int) (w : World) (hr0 : Kd.C (Kd.int .u8) w A0 l0.length l0) (hc0 : l0.length ≤ c0) (h : prop_DecodeInt.f l0 = some (r1, r2, r3)) :
    Calls Tryd.prog 31 #[.slice A0 l0.length c0] w fun e w' => ∃ v1_ : Value, e = .returned (.tuple #[.int .u32 r1, v1_, .int .i64 r3]) ∧ Kd.R (Kd.int .u8) 5 w' w.heap.size (fun _ => True) v1_ r2 ∧ Below w.heap.size w w' := by
  have HR0 := Aside0.mk hr0
  have HC0 := Aside0.mk hc0
  clear hr0 hc0
  have HB := Aside0.mk (Below.refl w.heap.size w)
  have H : (if (l0.length : Int) < 4 then (some (0, ([] : List Int), 2)) else ((prop_number.f l0).bind fun t32001 => (if 4 ≤ (l0.length : Int) then ((slices_Clone_byte_byte.f (l0.drop 4)).bind fun t32003 => (some (t32001, t32003, 0))) else (none)))) = some (r1, r2, r3) := h
  clear h
  by_cases c2 : (l0.length : Int) < 4
  · rw [if_pos c2] at H
    have c2b0 : decide ((l0.length : Int) < 4) = true := decide_eq_true c2
    have c2b1 : decide (l0.length < 4) = true := decide_eq_true (by omega)
    clear c2
    simp only [Option.some.injEq, Prod.mk.injEq] at H
    obtain ⟨rfl, rfl, rfl⟩ := H
    go_enter Tryd.func31, Tryd.ntmps31
    go_wp2
    go_ret3
    exact ⟨_, by first | rfl | (simp [errW_none, errW_some] <;> rfl) | (simp [*, errW_none, errW_some] <;> rfl), by first | exact Kd.R_nil _ _ _ _ _ | exact Kd.N_nil _ _ _ _ _ | exact Kd.V_nil _ _ _ _ _ | exact Kd.Q_nil _ _ _ _ _ | exact Kd.S_nil _ _ _ _ _, by repeat (first | (with_reducible first | exact HB.out | apply below_alloc | apply pw_below_drewN | apply below_drew1) | exact HB.out)⟩
  · rw [if_neg c2] at H
    have c2b0 : decide ((l0.length : Int) < 4) = false := decide_eq_false c2
    have c2b1 : decide (l0.length < 4) = false := decide_eq_false (by omega)
    clear c2
    replace H := Option.bind_eq_some_iff.mp H
    obtain ⟨t32001, A30, H⟩ := H
    replace H : (if 4 ≤ (l0.length : Int) then ((slices_Clone_byte_byte.f (l0.drop 4)).bind fun t32003 => (some (t32001, t32003, 0))) else (none)) = some (r1, r2, r3) := H
    have A3 := Aside0.mk A30
    clear A30
    by_cases c4 : 4 ≤ (l0.length : Int)
    · rw [if_pos c4] at H
      have c4b0 := eq_true c4
      have c4b1 : decide (4 ≤ (l0.length : Int)) = true := decide_eq_true c4
      clear c4
      replace H := Option.bind_eq_some_iff.mp H
      obtain ⟨t32003, A50, H⟩ := H
      replace H : (some (t32001, t32003, 0)) = some (r1, r2, r3) := H
      have A5 := Aside0.mk A50
      clear A50
      simp only [Option.some.injEq, Prod.mk.injEq] at H
      obtain ⟨rfl, rfl, rfl⟩ := H
      go_enter Tryd.func31, Tryd.ntmps31
      try go_wp2
      have n0_ := Aside0.mk (below_drew1 HB.out)
      clear HB
      have HB := n0_
      clear n0_
      obtain ⟨i07, hi07, _, hsz7, _⟩ := info_parts info5
      obtain ⟨A7, hcut7, hA7, hC7⟩ := print_drop_of (P := Tryd.prog) (Value.int .u8) 0 25 5 .i64 Tryd.underlying25 hi07 hsz7 A0 c0 l0 4 (by omega) (of_decide_eq_true (by first | (with_reducible assumption) | assumption)) HC0.out
      have HR32002 := Aside0.mk (Kd.C_of_reads (h1 := fun _ => rfl) (hA7 _ (Kd.reads_of_C HR0.out)))
      have HC32002 := Aside0.mk hC7
      clear hA7 hC7 hi07 hsz7
      refine start_ (n := 8) (S := fun w' => True) (ds := []) #[false, false, false, false, false, false, false, false] (by kernel_rfl) rfl rfl trivial (fun hHeld => ?_); refine with_tabW prop_DecodeInt.tab3 prop_DecodeInt.bits3 (fun HT_ HW_ => ?_)
      generalize w.drew = w6 at HB HR32002 hHeld ⊢
      refine pure_ (i := 0) (N := some 8) (v := ?_) (a' := ?_) #[true, false, false, false, false, false, false, false] rfl rfl (any_of HT_.out (by kernel_rfl)) (fun _ _ _ h => h) (Or.inl ⟨by rfl, ?_⟩) ?_ ?_
      rotate_left
      · intro w'
        go_simp
        with_reducible rfl
      rotate_left
      · simp only [Act.put, List.setIfInBounds_toArray, List.set_cons_zero, List.set_cons_succ, i64_w, i32_w]
        rfl
      refine pure_ (i := 2) (N := some 10) (v := ?_) (a' := ?_) #[true, false, true, false, false, false, false, false] rfl rfl (any_of HT_.out (by kernel_rfl)) (fun _ _ _ h => h) (Or.inl ⟨by rfl, ?_⟩) ?_ ?_
      rotate_left
      · intro w'
        go_simp
        with_reducible rfl
      rotate_left
      · simp only [Act.put, List.setIfInBounds_toArray, List.set_cons_zero, List.set_cons_succ, i64_w, i32_w]
        rfl
      refine pure_ (i := 3) (N := some 11) (v := ?_) (a' := ?_) #[true, false, true, true, false, false, false, false] rfl rfl (any_of HT_.out (by kernel_rfl)) (fun _ _ _ h => h) (Or.inl ⟨by rfl, ?_⟩) ?_ ?_
      rotate_left
      · intro w'
        go_simp
        with_reducible rfl
      rotate_left
      · simp only [Act.put, List.setIfInBounds_toArray, List.set_cons_zero, List.set_cons_succ, i64_w, i32_w]
        rfl
      refine one_ (i := 1) (N := some 9) #[true, true, true, true, false, false, false, false] rfl rfl (one_of HT_.out (by kernel_rfl)) (by decide) (fun K hK => ?_)
      refine goes_ Tryd.func48 (by kernel_rfl) rfl #[.slice A0 l0.length c0] (by rfl) rfl rfl (by (try simp only [List.map_toArray, List.map_cons, List.map_nil]); first | done | rfl | (simp only [List.length_drop, List.length_take]; rfl)) ?_
      with_reducible refine (prop_number.calls _ _ l0 t32001 _ ?side1 ?side2 A3.out).mono ?_
      (case side1 => repeat (first | exact (Kd.C_below HR0.out HB.out) | (with_reducible refine Kd.C_alloc ?_ _) | (with_reducible refine Kd.C_drewN ?_ _) | (with_reducible refine Kd.C_drew ?_)))
      (case side2 => exact HC0.out)
      rintro e w' ⟨rfl, ⟨nd, rfl⟩⟩
      refine ⟨_, rfl, ?_⟩
      refine hK.out _ _ trivial (fun hHeld => ?_)
      clear hK K
      refine norm_ (a' := ?_) ?_ ?_
      rotate_left
      · show Act.put _ (some 9) _ = _
        simp only [Act.put, List.setIfInBounds_toArray, List.set_cons_zero, List.set_cons_succ, i64_w, i32_w]
        rfl
      refine one_ (i := 4) (N := some 12) #[true, true, true, true, true, false, false, false] rfl rfl (one_of HT_.out (by kernel_rfl)) (by decide) (fun K hK => ?_)
      refine goes_ Tryd.func51 (by kernel_rfl) rfl #[.slice A7 (l0.drop 4).length (c0 - 4)] (by rfl) rfl rfl (by (try simp only [List.map_toArray, List.map_cons, List.map_nil]); first | done | (rw [show (l0.drop 4).length = (l0.length - 4) from List.length_drop] <;> rfl) | rfl | (simp only [List.length_drop, List.length_take]; rfl)) ?_
      with_reducible refine (slices_Clone_byte_byte.calls _ _ (l0.drop 4) t32003 _ ?side1 ?side2 A5.out).mono ?_
      (case side1 => repeat (first | exact (Kd.C_below HR32002.out (by repeat (first | (with_reducible first | exact HB.out | apply below_alloc | apply pw_below_drewN | apply below_drew1) | exact HB.out))) | (with_reducible refine Kd.C_alloc ?_ _) | (with_reducible refine Kd.C_drewN ?_ _) | (with_reducible refine Kd.C_drew ?_)))
      (case side2 => exact HC32002.out)
      rintro e w8 ⟨v32004, rfl, ho0, hb⟩
      refine ⟨_, rfl, ?_⟩
      have n0_ := Aside0.mk (Kd.R_lower ho0 (below_size (by repeat (first | (with_reducible first | exact HB.out | apply below_alloc | apply pw_below_drewN | apply below_drew1) | exact HB.out))))
      have n1_ := Aside0.mk (below_step (by repeat (first | (with_reducible first | exact HB.out | apply below_alloc | apply pw_below_drewN | apply below_drew1) | exact HB.out)) hb)
      clear HB
      have HO32005 := n0_
      have HB := n1_
      clear n0_ n1_
      (try clear hb)
      (try clear hb2)
      (try clear hk)
      (try clear hi)
      (try clear ho0)
      refine hK.out _ _ trivial (fun hHeld => ?_)
      clear hK K
      refine norm_ (a' := ?_) ?_ ?_
      rotate_left
      · show Act.put _ (some 12) _ = _
        simp only [Act.put, List.setIfInBounds_toArray, List.set_cons_zero, List.set_cons_succ, i64_w, i32_w]
        rfl
      refine pure_ (i := 5) (N := some 2) (v := ?_) (a' := ?_) #[true, true, true, true, true, true, false, false] rfl rfl (any_of HT_.out (by kernel_rfl)) (fun _ _ _ h => h) (Or.inl ⟨by rfl, ?_⟩) ?_ ?_
      rotate_left
      · intro w'
        go_simp
        with_reducible rfl
      rotate_left
      · simp only [Act.put, List.setIfInBounds_toArray, List.set_cons_zero, List.set_cons_succ, i64_w, i32_w]
        rfl
      refine pure_ (i := 6) (N := some 3) (v := ?_) (a' := ?_) #[true, true, true, true, true, true, true, false] rfl rfl (any_of HT_.out (by kernel_rfl)) (fun _ _ _ h => h) (Or.inl ⟨by rfl, ?_⟩) ?_ ?_
      rotate_left
      · intro w'
        go_simp
        with_reducible rfl
      rotate_left
      · simp only [Act.put, List.setIfInBounds_toArray, List.set_cons_zero, List.set_cons_succ, i64_w, i32_w]
        rfl
      refine pure_ (i := 7) (N := some 4) (v := ?_) (a' := ?_) #[true, true, true, true, true, true, true, true] rfl rfl (any_of HT_.out (by kernel_rfl)) (fun _ _ _ h => h) (Or.inl ⟨by rfl, ?_⟩) ?_ ?_
      rotate_left
      · intro w'
        go_simp
        with_reducible rfl
      rotate_left
      · simp only [Act.put, List.setIfInBounds_toArray, List.set_cons_zero, List.set_cons_succ, i64_w, i32_w]
        rfl
      refine done_ (done_of HT_.out (by kernel_rfl)) ?_
      try go_wp2
      go_ret3
      exact ⟨_, by first | rfl | (simp [errW_none, errW_some] <;> rfl) | (simp [*, errW_none, errW_some] <;> rfl), by (with_reducible repeat (first | apply Kd.R_alloc | apply Kd.R_drewN | apply Kd.R_drew)); exact HO32005.out, by repeat (first | (with_reducible first | exact HB.out | apply below_alloc | apply pw_below_drewN | apply below_drew1) | exact HB.out)⟩
    · rw [if_neg c4] at H
      exact absurd H (by simp)

end Go.Proofs.YtlhnaplmphdhlaaDoor.Q
end
section
namespace Go.Proofs.YtlhnaplmphdhlaaDoor.Q
open Go.RowKit Go.Proofs.YtlhnaplmphdhlaaDoorW.PrintWords Go.Proofs.YtlhnaplmphdhlaaDoorW.PrintLast Go.Proofs.YtlhnaplmphdhlaaDoorW.PrintMore
set_option linter.unusedVariables false
set_option linter.unusedSimpArgs false

attribute [local go_sem] max2_int min2_int max_two min_two max_three min_three max_four min_four
/-! ### tinderref04_Copy: function 30 -/
def tinderref04_Copy.f (l0 : List Int) : Option (List Int) := if ([] : List Int).length + l0.length < 140737488355328 then (some (([] : List Int) ++ l0)) else (none)
set_option maxHeartbeats 8000000 in
set_option maxRecDepth 100000 in
theorem tinderref04_Copy.calls (A0 : Option Addr) (c0 : Nat) (l0 : List Int) (r : List Int) (w : World) (hr0 : Kd.C (Kd.int .u8) w A0 l0.length l0) (hc0 : l0.length ≤ c0) (h : tinderref04_Copy.f l0 = some r) :
    Calls Tryd.prog 30 #[.slice A0 l0.length c0] w fun e w' => ∃ v0_ : Value, e = .returned (v0_) ∧ Kd.R (Kd.int .u8) 5 w' w.heap.size (fun _ => True) v0_ r ∧ Below w.heap.size w w' := by
  have HR0 := Aside0.mk hr0
  have HC0 := Aside0.mk hc0
  clear hr0 hc0
  have HB := Aside0.mk (Below.refl w.heap.size w)
  have H : (if ([] : List Int).length + l0.length < 140737488355328 then (some (([] : List Int) ++ l0)) else (none)) = some r := h
  clear h
  by_cases c2 : ([] : List Int).length + l0.length < 140737488355328
  · rw [if_pos c2] at H
    have LMc2 := Aside0.mk c2
    clear c2
    obtain ⟨y31001, hy31001⟩ : ∃ y_ : List Int, y_ = (([] : List Int) ++ l0) := ⟨_, rfl⟩
    replace H : (some y31001) = some r := by first | (rw [hy31001]; with_reducible exact H) | (have H2_ := (Option.bind_some _ _).symm.trans H; rw [hy31001]; with_reducible exact H2_) | (have H2_ := (Option.bind_some _ _).symm.trans H; with_reducible exact H2_) | with_reducible exact H | (rw [hy31001]; exact H) | exact H
    have Ny31001 := Aside0.mk hy31001
    clear hy31001
    obtain rfl := Option.some.inj H
    go_enter Tryd.func30, Tryd.ntmps30
    go_wp2_with (first | ((with_reducible refine gate_builtin (b := .append) (xs := #[.tmp 4, .tmp 5]) rfl ?_); at_builtin; refine Kd.R_append_rows (Kd.int .u8) (w0 := w) w.heap.size rfl (.tmp 4) (.tmp 5) 25 5 (.int .u8 0) 1 rfl Tryd.underlying25 info5 rfl (by decide) (by omega) (.slice none 0 0) ([] : List Int) l0 _ _ _ (fun _ => True) (fun _ => False) rfl rfl ?aO ?aR (fun _ _ h => h) (fun _ h => h.elim) ?aF ?aB ?aS ?aL ?_; (case aR => repeat (first | exact HR0.out | (with_reducible refine Kd.C_alloc ?_ _) | (with_reducible refine Kd.C_drewN ?_ _) | (with_reducible refine Kd.C_drew ?_))); (case aB => exact (by repeat (first | (with_reducible first | exact HB.out | apply below_alloc | apply pw_below_drewN | apply below_drew1) | exact HB.out))); (case aF => exact (fun _ _ => trivial)); (case aO => exact ((Kd.R_nil _ _ _ _ (fun _ => True)))); (case aS => exact (below_size (by repeat (first | (with_reducible first | exact HB.out | apply below_alloc | apply pw_below_drewN | apply below_drew1) | exact HB.out)))); (case aL => have := LMc2.out; omega); intro v31002 w3 ho hb hg hat; rw [← Ny31001.out] at ho; have n0_ := Aside0.mk (hb); have n1_ := Aside0.mk (ho); clear HB; have HB := n0_; have HO31003 := n1_; clear n0_ n1_; clear ho hb hg hat))
    go_ret
    exact ⟨_, by first | rfl | (simp [errW_none, errW_some] <;> rfl) | (simp [*, errW_none, errW_some] <;> rfl), by (with_reducible repeat (first | apply Kd.R_alloc | apply Kd.R_drewN | apply Kd.R_drew)); exact HO31003.out, by repeat (first | (with_reducible first | exact HB.out | apply below_alloc | apply pw_below_drewN | apply below_drew1) | exact HB.out)⟩
  · rw [if_neg c2] at H
    exact absurd H (by simp)

end Go.Proofs.YtlhnaplmphdhlaaDoor.Q
end
section
set_option linter.unusedSimpArgs false
set_option linter.unusedVariables false
namespace Go.Proofs.YtlhnaplmphdhlaaDoor.Q
open Go.RowKit Go.Proofs.YtlhnaplmphdhlaaDoorW.PrintWords Go.Proofs.YtlhnaplmphdhlaaDoorW.PrintLast Go.Proofs.YtlhnaplmphdhlaaDoorW.PrintMore
attribute [local go_sem] max2_int min2_int max_two min_two max_three min_three max_four min_four
theorem rd_B {L : List Int} (h : BytesL L) (i : Int) : 0 ≤ rd L i ∧ rd L i < 256 := by
  unfold rd
  rw [List.getD_eq_getElem?_getD]
  cases hx : L[i.toNat]? with
  | none => exact ⟨by decide, by decide⟩
  | some x => exact h x (List.mem_of_getElem? hx)
def dec (L : List Int) : Nat → Int
  | 0 => 0
  | k + 1 => dec L k * 256 + rd L (k : Int)
def intF (L : List Int) : Int × List Int × Int := if L.length < 4 then (0, [], 2) else (dec L 4, L.drop 4, 0)
theorem wrapu32 (n : Int) : IntKind.u32.wrap n = n % 4294967296 := by simp [IntKind.wrap, IntKind.bits, IntKind.signed]
theorem or_u32 (a b : Nat) (ha : a < 4294967296) (hb : b < 4294967296) : bits BinOp.or IntKind.u32 (a : Int) (b : Int) = ((a ||| b : Nat) : Int) := by
  have hx : a ||| b < 2 ^ 32 := Nat.or_lt_two_pow (by omega) (by omega)
  have h1 : (BitVec.ofInt 32 (a : Int)).toNat = a := by
    rw [BitVec.ofInt_natCast, BitVec.toNat_ofNat]; exact Nat.mod_eq_of_lt (by omega)
  have h2 : (BitVec.ofInt 32 (b : Int)).toNat = b := by
    rw [BitVec.ofInt_natCast, BitVec.toNat_ofNat]; exact Nat.mod_eq_of_lt (by omega)
  show IntKind.u32.wrap ((BitVec.ofInt 32 (a : Int) ||| BitVec.ofInt 32 (b : Int)).toNat : Int) = _
  rw [BitVec.toNat_or, h1, h2, wrapu32]
  omega
theorem or_four (a b c d : Int) (ha : 0 ≤ a ∧ a < 256) (hb : 0 ≤ b ∧ b < 256) (hc : 0 ≤ c ∧ c < 256) (hd : 0 ≤ d ∧ d < 256) : bits .or .u32 (bits .or .u32 (bits .or .u32 (((a % 4294967296) * 16777216) % 4294967296) (((b % 4294967296) * 65536) % 4294967296)) (((c % 4294967296) * 256) % 4294967296)) (d % 4294967296) = ((a * 256 + b) * 256 + c) * 256 + d := by
  obtain ⟨x, rfl⟩ := Int.eq_ofNat_of_zero_le ha.1
  obtain ⟨y, rfl⟩ := Int.eq_ofNat_of_zero_le hb.1
  obtain ⟨z, rfl⟩ := Int.eq_ofNat_of_zero_le hc.1
  obtain ⟨t, rfl⟩ := Int.eq_ofNat_of_zero_le hd.1
  have e1 : (((x : Int) % 4294967296) * 16777216) % 4294967296 = ((16777216 * x : Nat) : Int) := by omega
  have e2 : (((y : Int) % 4294967296) * 65536) % 4294967296 = ((65536 * y : Nat) : Int) := by omega
  have e3 : (((z : Int) % 4294967296) * 256) % 4294967296 = ((256 * z : Nat) : Int) := by omega
  have e4 : (t : Int) % 4294967296 = ((t : Nat) : Int) := by omega
  rw [e1, e2, e3, e4, or_u32 _ _ (by omega) (by omega)]
  have f1 : 16777216 * x ||| 65536 * y = 65536 * (256 * x + y) := by
    rw [show 16777216 * x = 2 ^ 24 * x by rfl, ← Nat.two_pow_add_eq_or_of_lt (show 65536 * y < 2 ^ 24 by omega)]
    omega
  rw [f1, or_u32 _ _ (by omega) (by omega)]
  have f2 : 65536 * (256 * x + y) ||| 256 * z = 256 * (65536 * x + 256 * y + z) := by
    rw [show 65536 * (256 * x + y) = 2 ^ 16 * (256 * x + y) by rfl, ← Nat.two_pow_add_eq_or_of_lt (show 256 * z < 2 ^ 16 by omega)]
    omega
  rw [f2, or_u32 _ _ (by omega) (by omega), show 256 * (65536 * x + 256 * y + z) = 2 ^ 8 * (65536 * x + 256 * y + z) by rfl, ← Nat.two_pow_add_eq_or_of_lt (show t < 2 ^ 8 by omega)]
  omega
theorem dec_four (L : List Int) : dec L 4 = ((rd L 0 * 256 + rd L 1) * 256 + rd L 2) * 256 + rd L 3 := by
  show (((0 * 256 + rd L 0) * 256 + rd L 1) * 256 + rd L 2) * 256 + rd L 3 = _
  omega
theorem decInt_eq (L : List Int) (hB : BytesL L) (hl : L.length ≤ 140737488351232) : prop_DecodeInt.f L = some (intF L) := by
  unfold prop_DecodeInt.f intF
  by_cases h : L.length < 4
  · rw [if_pos (by omega), if_pos h]
  · have e1 : prop_number.f L = some (dec L 4) := by
      unfold prop_number.f
      rw [if_pos (by omega), if_pos (by omega), if_pos (by omega), if_pos (by omega), or_four _ _ _ _ (rd_B hB 0) (rd_B hB 1) (rd_B hB 2) (rd_B hB 3), dec_four]
    have e2 : slices_Clone_byte_byte.f (L.drop 4) = some (L.drop 4) := by
      unfold slices_Clone_byte_byte.f
      rw [if_pos (by rw [List.length_drop]; omega)]
    rw [if_neg (by omega), if_neg h, e1, Option.bind_some, if_pos (by omega), e2]
    rfl
set_option maxHeartbeats 4000000 in
set_option maxRecDepth 100000 in
theorem refInt_calls (A : Option Addr) (c : Nat) (L : List Int) (w : World) (hC : Kd.C (Kd.int .u8) w A L.length L) (hc : L.length ≤ c) (hl : L.length ≤ 140737488351232) (hB : BytesL L) :
    Calls Tryd.prog 32 #[.slice A L.length c] w fun e w' => ∃ A c, e = .returned (.tuple #[.int .u32 (intF L).1, .slice A (intF L).2.1.length c, .int .i64 (intF L).2.2]) ∧ (intF L).2.1.length ≤ c ∧ Kd.C (Kd.int .u8) w' A (intF L).2.1.length (intF L).2.1 ∧ Below w.heap.size w w' := by
  obtain ⟨T, hT⟩ : ∃ T, T = intF L := ⟨_, rfl⟩
  rw [← hT]
  have HB0 := Aside0.mk (Below.refl w.heap.size w)
  by_cases h4 : L.length < 4
  · have d1 : decide ((L.length : Int) < 4) = true := decide_eq_true (by omega)
    rw [intF, if_pos h4] at hT
    subst hT
    clear hC hc hl hB h4
    go_enter Tryd.func32, Tryd.ntmps32
    go_wp2
    exact bodyPost_ret (results_tmp3 rfl _ _ _) rfl ⟨none, 0, rfl, Nat.le_refl _, Kd.C_nil _ _, HB0.out⟩
  · have d1 : decide ((L.length : Int) < 4) = false := decide_eq_false (by omega)
    rw [intF, if_neg h4] at hT
    have HT := Aside0.mk hT
    have HC := Aside0.mk hC
    have HK := Aside0.mk hc
    have HL := Aside0.mk hl
    have HBY := Aside0.mk hB
    have H4 := Aside0.mk h4
    clear hT hC hc hl hB h4
    go_enter Tryd.func32, Tryd.ntmps32
    go_wp2
    go_loopg [5, 6] 4 (fun kq v5 v6 w' => ∃ (n i : Int), v5 = .int .u32 n ∧ v6 = .int .i64 i ∧ Aside0 (0 ≤ i ∧ i + kq = 4) ∧ Aside0 (n = dec L i.toNat ∧ 0 ≤ n ∧ (i = 0 → n < 1) ∧ (i = 1 → n < 256) ∧ (i = 2 → n < 65536) ∧ (i = 3 → n < 16777216)) ∧ Aside0 (Below w.heap.size w w'))
    case atStart => exact ⟨0, 0, rfl, rfl, ⟨by omega, by omega⟩, ⟨rfl, by omega, by omega, by omega, by omega, by omega⟩, HB0⟩
    case round =>
      obtain ⟨n, i, rfl, rfl, HI, HN, HB⟩ := hrel
      cases gk with
      | zero =>
        have hi4 : i = 4 := by have := HI.out; omega
        subst hi4
        have hlt : decide ((4 : Int) < 4) = false := rfl
        have hn := HN.out.1
        have k2 := run_cut_lo (P := Tryd.prog) Tryd.underlying25 info5z A L.length c 4 (by omega) (by have := H4.out; omega)
        have hC2 := C_cut (Kd.C_below HC.out HB.out) HK.out 4 (L.length - 4) (by have := H4.out; omega)
        rw [List.take_of_length_le (by rw [List.length_drop]; omega)] at hC2
        have HC2 := Aside0.mk hC2
        have HE := Aside0.mk (show T = (n, L.drop 4, 0) by rw [HT.out, hn]; rfl)
        have e3 : L.length - (4 : Int).toNat = (L.drop 4).length := by rw [List.length_drop]; rfl
        have HK2 := Aside0.mk (show (L.drop 4).length ≤ c - 4 by rw [List.length_drop]; have := HK.out; omega)
        rw [e3] at k2
        have e4 : (L.drop 4).length = L.length - 4 := by rw [List.length_drop]
        rw [← e4] at HC2
        obtain ⟨R, hR⟩ : ∃ R, R = L.drop 4 := ⟨_, rfl⟩
        rw [← hR] at k2 HC2 HE HK2
        clear e3 e4 hR hn hC2
        have hA2 : cutAt A c (4 : Int).toNat 1 = cutAt A c 4 (Kd.int .u8).sz := rfl
        rw [hA2] at k2
        generalize cutAt A c 4 (Kd.int .u8).sz = A2 at k2 HC2
        have hc2 : c - (4 : Int).toNat = c - 4 := rfl
        rw [hc2] at k2
        generalize c - 4 = c2 at k2 HK2
        clear hA2 hc2
        go_wp2
        go_quiet (fail)
        go_wp2
        exact bodyPost_ret (results_tmp3 rfl _ _ _) rfl ⟨A2, c2, by rw [HE.out]; rfl, by rw [HE.out]; exact HK2.out, by rw [HE.out]; exact Kd.C_drewN HC2.out _, pw_below_drewN HB.out _⟩
      | succ k1 =>
        have hi := HI.out
        have hn := HN.out
        have hrb := rd_B HBY.out i
        have hl4 := H4.out
        have hlt : decide (i < 4) = true := decide_eq_true (by omega)
        have p1 : (0 ≤ i) = True := eq_true (by omega)
        have p2 : (i < (L.length : Int)) = True := eq_true (by omega)
        have hw : IntKind.i64.wrap (i + 1) = i + 1 := (i64_w _).trans (by unfold wrap64; omega)
        have hw2 : wrap64 (i + 1) = i + 1 := by unfold wrap64; omega
        obtain ⟨ad, eA, hx⟩ := Kd.at_int (Kd.C_below HC.out HB.out) i (by omega) (by omega)
        cases eA
        obtain ⟨x, hxx⟩ : ∃ x, x = rd L i := ⟨_, rfl⟩
        rw [← hxx] at hx hrb
        have hnb : n < 16777216 := by
          obtain h | h | h | h : i = 0 ∨ i = 1 ∨ i = 2 ∨ i = 3 := by omega
          all_goals (subst h; omega)
        obtain ⟨y, hy⟩ : ∃ y, y = n * 256 := ⟨_, rfl⟩
        obtain ⟨z, hz⟩ : ∃ z, z = y + x := ⟨_, rfl⟩
        have m1 : IntKind.u32.wrap (n * 256) = y := by rw [wrapu32]; omega
        have m2 : IntKind.u32.wrap x = x := by rw [wrapu32]; omega
        have m3 : IntKind.u32.wrap (y + x) = z := by rw [wrapu32]; omega
        have m4 : n * 256 % 4294967296 = y := by omega
        have m5 : x % 4294967296 = x := by omega
        have m6 : (y + x) % 4294967296 = z := by omega
        have HZ := Aside0.mk (show z = dec L (i + 1).toNat ∧ 0 ≤ z ∧ (i + 1 = 0 → z < 1) ∧ (i + 1 = 1 → z < 256) ∧ (i + 1 = 2 → z < 65536) ∧ (i + 1 = 3 → z < 16777216) from by
          refine ⟨?_, by omega, by omega, ?_, ?_, ?_⟩
          · rw [show (i + 1).toNat = i.toNat + 1 by omega, dec, show ((i.toNat : Nat) : Int) = i by omega, ← hn.1, ← hxx]
            omega
          · intro h
            have := hn.2.2.1 (by omega)
            omega
          · intro h
            have := hn.2.2.2.1 (by omega)
            omega
          · intro h
            have := hn.2.2.2.2.1 (by omega)
            omega)
        clear hi hn hrb hl4 hxx hnb hy hz
        go_wp2
        go_roundg k1
        case measure => omega
        case rel => exact ⟨z, i + 1, rfl, rfl, ⟨by have := HI.out; omega, by have := HI.out; omega⟩, HZ, HB⟩
theorem textOwn_calls (v : Value) (L : List Int) (w : World) (base : Nat) (hR : Kd.R (Kd.int .u8) 5 w base (fun _ => True) v L) (hl : L.length ≤ 140737488351232) :
    Calls Tryd.prog 33 #[v] w fun e w' => ∃ A c, e = .returned (.tuple #[.string (textF L).1, .slice A (textF L).2.1.length c, .int .i64 (textF L).2.2]) ∧ (textF L).2.1.length ≤ c ∧ Kd.C (Kd.int .u8) w' A (textF L).2.1.length (textF L).2.1 ∧ Below w.heap.size w w' := by
  have hown := Kd.own_of_R hR
  rcases hown.2 with ⟨rfl, hn⟩ | ⟨g, cap, cur, rfl, _⟩
  · obtain rfl : L = [] := List.eq_nil_of_length_eq_zero hn
    exact decText_nil_calls w
  · obtain ⟨_, hc, hC⟩ := Kd.R_reads' hR
    exact decText_calls ⟨g, 0, none⟩ cap L w hC hc hl
set_option maxRecDepth 100000 in
set_option maxHeartbeats 8000000 in
theorem propDecodes_row {w : World} (ht : Tabs w) (A : Option Addr) (c : Nat) (L : List Int) (hC : Kd.C (Kd.int .u8) w A L.length L) (hc : L.length ≤ c) (hg : L.length * 1 ≤ 140737488351232 ∧ ∀ a ∈ L, (Lit.int .u8 a).wf = true) :
    Calls Tryd.prog 7 #[.slice A L.length c] w fun e w' => e = .returned (.bool true) ∧ Below w.heap.size w w' := by
  clear ht
  have hl : L.length ≤ 140737488351232 := by omega
  have hB : BytesL L := fun a ha => by
    have := hg.2 a ha
    simp only [Lit.wf, Bool.and_eq_true, decide_eq_true_eq, show IntKind.u8.min = 0 from rfl, show IntKind.u8.max = 255 from rfl] at this
    omega
  obtain ⟨n, R, e0, hI⟩ : ∃ n R e0, intF L = (n, R, e0) := ⟨_, _, _, rfl⟩
  obtain ⟨s, U, g0, hT⟩ : ∃ s U g0, textF L = (s, U, g0) := ⟨_, _, _, rfl⟩
  have HCP := Aside0.mk (show ∀ W : World, Below w.heap.size w W → Calls Tryd.prog 30 #[.slice A L.length c] W (fun e w' => ∃ A c, e = .returned (.slice A L.length c) ∧ L.length ≤ c ∧ Kd.C (Kd.int .u8) w' A L.length L ∧ Kd.R (Kd.int .u8) 5 w' W.heap.size (fun _ => True) (.slice A L.length c) L ∧ Below W.heap.size W w') from fun W hW => by
    refine (tinderref04_Copy.calls A c L L W (Kd.C_below hC hW) hc (by unfold tinderref04_Copy.f; rw [if_pos (by simp; omega)]; rfl)).mono ?_
    rintro e w' ⟨v, rfl, hR, hb⟩
    have hR2 := hR
    obtain ⟨A, c, rfl, hc, hC⟩ := Kd.R_reads hR
    exact ⟨A, c, rfl, hc, hC, hR2, hb⟩)
  have HPI := Aside0.mk (show ∀ (A : Option Addr) (c : Nat) (W : World), Kd.C (Kd.int .u8) W A L.length L → L.length ≤ c → Calls Tryd.prog 31 #[.slice A L.length c] W (fun e w' => ∃ A c, e = .returned (.tuple #[.int .u32 n, .slice A R.length c, .int .i64 e0]) ∧ R.length ≤ c ∧ Kd.C (Kd.int .u8) w' A R.length R ∧ Below W.heap.size W w') from fun A c W hC hc => by
    refine (prop_DecodeInt.calls A c L n R e0 W hC hc (by rw [decInt_eq L hB hl, hI])).mono ?_
    rintro e w' ⟨v, rfl, hR, hb⟩
    obtain ⟨A, c, rfl, hc, hC⟩ := Kd.R_reads hR
    exact ⟨A, c, rfl, hc, hC, hb⟩)
  have HRI := Aside0.mk (show ∀ W : World, Below w.heap.size w W → Calls Tryd.prog 32 #[.slice A L.length c] W (fun e w' => ∃ A c, e = .returned (.tuple #[.int .u32 n, .slice A R.length c, .int .i64 e0]) ∧ R.length ≤ c ∧ Kd.C (Kd.int .u8) w' A R.length R ∧ Below W.heap.size W w') from fun W hW => by
    have h := refInt_calls A c L W (Kd.C_below hC hW) hc hl hB
    rw [hI] at h
    exact h)
  have HPT := Aside0.mk (show ∀ (v : Value) (W : World) (base : Nat), Kd.R (Kd.int .u8) 5 W base (fun _ => True) v L → Calls Tryd.prog 33 #[v] W (fun e w' => ∃ A c, e = .returned (.tuple #[.string s, .slice A U.length c, .int .i64 g0]) ∧ U.length ≤ c ∧ Kd.C (Kd.int .u8) w' A U.length U ∧ Below W.heap.size W w') from fun v W base hR => by
    have h := textOwn_calls v L W base hR hl
    rw [hT] at h
    exact h)
  have HRT := Aside0.mk (show ∀ W : World, Below w.heap.size w W → Calls Tryd.prog 34 #[.slice A L.length c] W (fun e w' => ∃ A c, e = .returned (.tuple #[.string s, .slice A U.length c, .int .i64 g0]) ∧ U.length ≤ c ∧ Kd.C (Kd.int .u8) w' A U.length U ∧ Below W.heap.size W w') from fun W hW => by
    have h := refText_calls A c L W (Kd.C_below hC hW) hc hl hB
    rw [hT] at h
    exact h)
  have HC := Aside0.mk hC
  have HK := Aside0.mk hc
  have HSM := Aside0.mk (fun (A : Option Addr) (c : Nat) (B : Option Addr) (d : Nat) (M : List Int) (W : World) (h1 : Kd.C (Kd.int .u8) W A M.length M) (hc : M.length ≤ c) (h2 : Kd.C (Kd.int .u8) W B M.length M) (hd : M.length ≤ d) => same_at A c M.length B d M W rfl h1 hc h2 hd)
  obtain ⟨m, hm⟩ : ∃ m, m = L.length := ⟨_, rfl⟩
  rw [← hm] at HCP HPI HRI HRT HK ⊢
  have HM := Aside0.mk hm
  clear hI hT hC hc hg hl hB hm
  go_enter Tryd.func7, Tryd.ntmps7
  go_wp2_with (first
    | (go_at_call 14; (with_reducible refine (alive_calls _).mono ?_); rintro e w1 ⟨rfl, hb⟩; have HB1 := Aside0.mk hb; clear hb)
    | (go_at_call 30; (with_reducible refine (HCP.out _ HB1.out).mono ?_); rintro e w2 ⟨A2, c2, rfl, hc, hC, hR, hb⟩; have HB2 := Aside0.mk (below_step HB1.out hb); have HC2 := Aside0.mk hC; have HK2 := Aside0.mk hc; have HR2 := Aside0.mk hR; clear hc hC hR hb)
    | (go_at_call 31; (with_reducible refine (HPI.out _ _ _ HC2.out HK2.out).mono ?_); rintro e w3 ⟨A3, c3, rfl, hc, hC, hb⟩; have HB3 := Aside0.mk (below_step HB2.out hb); have HC3 := Aside0.mk hC; have HK3 := Aside0.mk hc; have HR3 := Aside0.mk (Kd.R_below HR2.out hb); have HD3 := Aside0.mk (Kd.C_below HC2.out hb); clear hc hC hb)
    | (go_at_call 32; (with_reducible refine (HRI.out _ HB3.out).mono ?_); rintro e w4 ⟨A4, c4, rfl, hc, hC, hb⟩; have HB4 := Aside0.mk (below_step HB3.out hb); have HC4 := Aside0.mk hC; have HK4 := Aside0.mk hc; have HR4 := Aside0.mk (Kd.R_below HR3.out hb); have HD4 := Aside0.mk (Kd.C_below HD3.out hb); have HC34 := Aside0.mk (Kd.C_below HC3.out hb); clear hc hC hb)
    | (go_at_call 33; (with_reducible refine (HPT.out _ _ _ HR4.out).mono ?_); rintro e w5 ⟨A5, c5, rfl, hc, hC, hb⟩; have HB5 := Aside0.mk (below_step HB4.out hb); have HC5 := Aside0.mk hC; have HK5 := Aside0.mk hc; have HD5 := Aside0.mk (Kd.C_below HD4.out hb); have HC35 := Aside0.mk (Kd.C_below HC34.out hb); have HC45 := Aside0.mk (Kd.C_below HC4.out hb); clear hc hC hb)
    | (go_at_call 34; (with_reducible refine (HRT.out _ HB5.out).mono ?_); rintro e w6 ⟨A6, c6, rfl, hc, hC, hb⟩; have HB6 := Aside0.mk (below_step HB5.out hb); have HC6 := Aside0.mk hC; have HK6 := Aside0.mk hc; have HD6 := Aside0.mk (Kd.C_below HD5.out hb); have HC36 := Aside0.mk (Kd.C_below HC35.out hb); have HC46 := Aside0.mk (Kd.C_below HC45.out hb); have HC56 := Aside0.mk (Kd.C_below HC5.out hb); clear hc hC hb)
    | (go_at_call 19; (with_reducible refine (HSM.out _ _ _ _ R _ HC36.out HK3.out HC46.out HK4.out).mono ?_); rintro e w7 ⟨rfl, hb⟩; have HB7 := Aside0.mk (below_step HB6.out hb); have HD7 := Aside0.mk (Kd.C_below HD6.out hb); have HC57 := Aside0.mk (Kd.C_below HC56.out hb); have HC67 := Aside0.mk (Kd.C_below HC6.out hb); clear hb HC36)
    | (go_at_call 19; (with_reducible refine (HSM.out _ _ _ _ U _ HC57.out HK5.out HC67.out HK6.out).mono ?_); rintro e w8 ⟨rfl, hb⟩; have HB8 := Aside0.mk (below_step HB7.out hb); have HD8 := Aside0.mk (Kd.C_below HD7.out hb); clear hb HC57)
    | (go_at_call 19; (with_reducible refine (same_at _ _ _ _ _ L _ HM.out.symm HD8.out HK2.out (HM.out ▸ Kd.C_below HC.out HB8.out) HK.out).mono ?_); rintro e w9 ⟨rfl, hb⟩; have HB9 := Aside0.mk (below_step HB8.out hb); clear hb))
  go_ret
  exact ⟨rfl, HB9.out⟩
end Go.Proofs.YtlhnaplmphdhlaaDoor.Q
end
section
set_option linter.unusedSimpArgs false
set_option linter.unusedVariables false
namespace Go.Proofs.YtlhnaplmphdhlaaDoor.Q
open Go.RowKit Go.Proofs.YtlhnaplmphdhlaaDoorW.PrintWords Go.Proofs.YtlhnaplmphdhlaaDoorW.PrintLast Go.Proofs.YtlhnaplmphdhlaaDoorW.PrintMore
attribute [local go_sem] max2_int min2_int max_two min_two max_three min_three max_four min_four
theorem info24r : (Tryd.prog.info? 24).map (fun i => (i.zero, i.size, i.bytes)) = some (some (.int .u32 0), 1, 4) := by kernel_rfl
def numsR : Nat → List Int → List Int
  | 0, _ => []
  | k + 1, M => dec M 4 :: numsR k (M.drop 4)
theorem drop_BL {L : List Int} (h : BytesL L) (n : Nat) : BytesL (L.drop n) := fun a ha => h a (List.mem_of_mem_drop ha)
set_option maxHeartbeats 4000000 in
set_option maxRecDepth 100000 in
/-- The rest is the argument's own cut. -/
theorem refInt_at (A : Option Addr) (c : Nat) (L : List Int) (w : World) (hC : Kd.C (Kd.int .u8) w A L.length L) (hc : L.length ≤ c) (hl : L.length ≤ 140737488351232) (hB : BytesL L) (h4 : 4 ≤ L.length) :
    Calls Tryd.prog 32 #[.slice A L.length c] w fun e w' => e = .returned (.tuple #[.int .u32 (dec L 4), .slice (cutAt A c 4 1) (L.drop 4).length (c - 4), .int .i64 0]) ∧ Below w.heap.size w w' := by
  obtain ⟨D, hD⟩ : ∃ D, D = dec L 4 := ⟨_, rfl⟩
  obtain ⟨A2, hA2⟩ : ∃ A2, A2 = cutAt A c 4 1 := ⟨_, rfl⟩
  obtain ⟨c2, hc2⟩ : ∃ c2, c2 = c - 4 := ⟨_, rfl⟩
  obtain ⟨n2, hn2⟩ : ∃ n2, n2 = (L.drop 4).length := ⟨_, rfl⟩
  rw [← hD, ← hA2, ← hc2, ← hn2]
  have HB0 := Aside0.mk (Below.refl w.heap.size w)
  have d1 : decide ((L.length : Int) < 4) = false := decide_eq_false (by omega)
  have HK2 := Aside0.mk (show ∀ W : World, (Instr.slice 25 (.slice A L.length c) (some (.int .i64 4)) none none).run Tryd.prog W = .ok (.slice A2 n2 c2) W from fun W => by
    have k2 := run_cut_lo (P := Tryd.prog) Tryd.underlying25 info5z A L.length c 4 (by omega) (by omega) W
    rw [k2, hA2, hc2, hn2, List.length_drop]
    rfl)
  have HD := Aside0.mk hD
  have HC := Aside0.mk hC
  have HK := Aside0.mk hc
  have HL := Aside0.mk hl
  have HBY := Aside0.mk hB
  have H4 := Aside0.mk (show ¬ L.length < 4 by omega)
  clear hC hc hl hB h4 hD hA2 hc2 hn2
  go_enter Tryd.func32, Tryd.ntmps32
  go_wp2
  go_loopg [5, 6] 4 (fun kq v5 v6 w' => ∃ (n i : Int), v5 = .int .u32 n ∧ v6 = .int .i64 i ∧ Aside0 (0 ≤ i ∧ i + kq = 4) ∧ Aside0 (n = dec L i.toNat ∧ 0 ≤ n ∧ (i = 0 → n < 1) ∧ (i = 1 → n < 256) ∧ (i = 2 → n < 65536) ∧ (i = 3 → n < 16777216)) ∧ Aside0 (Below w.heap.size w w'))
  case atStart => exact ⟨0, 0, rfl, rfl, ⟨by omega, by omega⟩, ⟨rfl, by omega, by omega, by omega, by omega, by omega⟩, HB0⟩
  case round =>
    obtain ⟨n, i, rfl, rfl, HI, HN, HB⟩ := hrel
    cases gk with
    | zero =>
      have hi4 : i = 4 := by have := HI.out; omega
      subst hi4
      have hlt : decide ((4 : Int) < 4) = false := rfl
      have hn := HN.out.1
      have k2 := HK2.out
      have HE := Aside0.mk (show n = D by rw [HD.out, hn]; rfl)
      clear hn
      go_wp2
      go_quiet (fail)
      go_wp2
      exact bodyPost_ret (results_tmp3 rfl _ _ _) rfl ⟨by rw [← HE.out]; rfl, pw_below_drewN HB.out _⟩
    | succ k1 =>
      have hi := HI.out
      have hn := HN.out
      have hrb := rd_B HBY.out i
      have hl4 := H4.out
      have hlt : decide (i < 4) = true := decide_eq_true (by omega)
      have p1 : (0 ≤ i) = True := eq_true (by omega)
      have p2 : (i < (L.length : Int)) = True := eq_true (by omega)
      have hw : IntKind.i64.wrap (i + 1) = i + 1 := (i64_w _).trans (by unfold wrap64; omega)
      have hw2 : wrap64 (i + 1) = i + 1 := by unfold wrap64; omega
      obtain ⟨ad, eA, hx⟩ := Kd.at_int (Kd.C_below HC.out HB.out) i (by omega) (by omega)
      cases eA
      obtain ⟨x, hxx⟩ : ∃ x, x = rd L i := ⟨_, rfl⟩
      rw [← hxx] at hx hrb
      have hnb : n < 16777216 := by
        obtain h | h | h | h : i = 0 ∨ i = 1 ∨ i = 2 ∨ i = 3 := by omega
        all_goals (subst h; omega)
      obtain ⟨y, hy⟩ : ∃ y, y = n * 256 := ⟨_, rfl⟩
      obtain ⟨z, hz⟩ : ∃ z, z = y + x := ⟨_, rfl⟩
      have m1 : IntKind.u32.wrap (n * 256) = y := by rw [wrapu32]; omega
      have m2 : IntKind.u32.wrap x = x := by rw [wrapu32]; omega
      have m3 : IntKind.u32.wrap (y + x) = z := by rw [wrapu32]; omega
      have m4 : n * 256 % 4294967296 = y := by omega
      have m5 : x % 4294967296 = x := by omega
      have m6 : (y + x) % 4294967296 = z := by omega
      have HZ := Aside0.mk (show z = dec L (i + 1).toNat ∧ 0 ≤ z ∧ (i + 1 = 0 → z < 1) ∧ (i + 1 = 1 → z < 256) ∧ (i + 1 = 2 → z < 65536) ∧ (i + 1 = 3 → z < 16777216) from by
        refine ⟨?_, by omega, by omega, ?_, ?_, ?_⟩
        · rw [show (i + 1).toNat = i.toNat + 1 by omega, dec, show ((i.toNat : Nat) : Int) = i by omega, ← hn.1, ← hxx]
          omega
        · intro h
          have := hn.2.2.1 (by omega)
          omega
        · intro h
          have := hn.2.2.2.1 (by omega)
          omega
        · intro h
          have := hn.2.2.2.2.1 (by omega)
          omega)
      clear hi hn hrb hl4 hxx hnb hy hz
      go_wp2
      go_roundg k1
      case measure => omega
      case rel => exact ⟨z, i + 1, rfl, rfl, ⟨by have := HI.out; omega, by have := HI.out; omega⟩, HZ, HB⟩
set_option maxHeartbeats 4000000 in
set_option maxRecDepth 100000 in
theorem refInts_calls (A : Option Addr) (c m : Nat) (L : List Int) (w : World) (hm : L.length = 4 * m) (hC : Kd.C (Kd.int .u8) w A L.length L) (hc : L.length ≤ c) (hl : L.length ≤ 4000000) (hB : BytesL L) :
    Calls Tryd.prog 25 #[.slice A L.length c] w fun e w' => ∃ v, e = .returned (.tuple #[v, .int .i64 0]) ∧ Kd.R (Kd.int .u32) 24 w' w.heap.size (fun _ => True) v (numsR m L) ∧ Below w.heap.size w w' := by
  have d0 : ((L.length : Int) % 4 != 0) = false := bne_eq_false_iff_eq.2 (by omega)
  have d1 : (Int.tmod (L.length : Int) 4 != 0) = false := bne_eq_false_iff_eq.2 (by rw [Int.tmod_eq_emod_of_nonneg (by omega)]; omega)
  have HS := Aside0.mk (show ∀ (A : Option Addr) (c : Nat) (M : List Int) (W : World), 4 ≤ M.length → M.length ≤ 4000000 → BytesL M → Kd.C (Kd.int .u8) W A M.length M → M.length ≤ c → Calls Tryd.prog 32 #[.slice A M.length c] W (fun e w' => e = .returned (.tuple #[.int .u32 (dec M 4), .slice (cutAt A c 4 1) (M.drop 4).length (c - 4), .int .i64 0]) ∧ Below W.heap.size W w') from fun A c M W h4 hl hB hC hc => refInt_at A c M W hC hc (by omega) hB h4)
  have HB0 := Aside0.mk (Below.refl w.heap.size w)
  have HC := Aside0.mk hC
  have HK := Aside0.mk hc
  have HL := Aside0.mk hl
  have HM := Aside0.mk hm
  have HBY := Aside0.mk hB
  clear hC hc hl hB hm
  go_enter Tryd.func25, Tryd.ntmps25
  go_wp2
  go_loopg [0, 4] m (fun kq v0 v4 w' => ∃ (A : Option Addr) (c : Nat) (M acc : List Int), v0 = .slice A M.length c ∧ Aside0 (M.length = 4 * kq ∧ kq ≤ m ∧ M.length ≤ c ∧ BytesL M ∧ acc.length + kq = m ∧ acc ++ numsR kq M = numsR m L) ∧ Aside0 (Kd.C (Kd.int .u8) w A M.length M) ∧ Aside0 (Kd.R (Kd.int .u32) 24 w' w.heap.size (fun _ => True) v4 acc) ∧ Aside0 (Below w.heap.size w w'))
  case atStart => exact ⟨A, c, L, [], rfl, ⟨HM.out, Nat.le_refl _, HK.out, HBY.out, by simp, rfl⟩, HC, ⟨Kd.R_nil _ _ _ _ _⟩, HB0⟩
  case round =>
    obtain ⟨A1, c1, M, acc, rfl, HI, HC1, HR, HB⟩ := hrel
    cases gk with
    | zero =>
      have hi := HI.out
      have h0 : M.length = 0 := by omega
      have hlt : decide ((M.length : Int) > 0) = false := decide_eq_false (by omega)
      have hlt2 : decide (0 < (M.length : Int)) = false := decide_eq_false (by omega)
      have hlt3 : decide (0 < M.length) = false := decide_eq_false (by omega)
      have he : acc = numsR m L := by
        have := hi.2.2.2.2.2
        rwa [show numsR 0 M = [] from rfl, List.append_nil] at this
      subst he
      clear hi HI HC1 h0
      go_wp2
      go_ret2
      exact ⟨_, rfl, HR.out, HB.out⟩
    | succ k1 =>
      have hi := HI.out
      have hll := HL.out
      have hmm := HM.out
      have hlt : decide ((M.length : Int) > 0) = true := decide_eq_true (by omega)
      have hlt2 : decide (0 < (M.length : Int)) = true := decide_eq_true (by omega)
      have hlt3 : decide (0 < M.length) = true := decide_eq_true (by omega)
      have HCALL := Aside0.mk (HS.out A1 c1 M wr (by omega) (by omega) hi.2.2.2.1 (Kd.C_below HC1.out HB.out) hi.2.2.1)
      obtain ⟨q, hq⟩ : ∃ q, q = M.length := ⟨_, rfl⟩
      obtain ⟨x, hx⟩ : ∃ x, x = dec M 4 := ⟨_, rfl⟩
      obtain ⟨R, hR⟩ : ∃ R, R = M.drop 4 := ⟨_, rfl⟩
      rw [← hq, ← hx, ← hR] at HCALL
      have HC2 := Aside0.mk (show Kd.C (Kd.int .u8) w (cutAt A1 c1 4 1) R.length R from by
        have h := C_cut HC1.out hi.2.2.1 4 (M.length - 4) (by omega)
        rw [List.take_of_length_le (by rw [List.length_drop]; omega)] at h
        rw [hR, List.length_drop]
        exact h)
      have HK2 := Aside0.mk (show R.length ≤ c1 - 4 by rw [hR, List.length_drop]; omega)
      rw [← hq] at hlt hlt2 hlt3
      have HN := Aside0.mk (show R.length = 4 * k1 ∧ k1 ≤ m ∧ BytesL R ∧ (acc ++ [x]).length + k1 = m ∧ (acc ++ [x]) ++ numsR k1 R = numsR m L from by
        refine ⟨by rw [hR, List.length_drop]; omega, by omega, by rw [hR]; exact drop_BL hi.2.2.2.1 4, by rw [List.length_append, List.length_singleton]; omega, ?_⟩
        rw [← hi.2.2.2.2.2, numsR, List.append_assoc, hR, hx]
        rfl)
      have HAL := Aside0.mk (show acc.length ≤ 1000000 by omega)
      simp only [← hq]
      generalize cutAt A1 c1 4 1 = A2 at HCALL HC2
      generalize c1 - 4 = c2 at HCALL HK2
      clear hi hll hmm hq hx hR HC1
      go_wp2_with (first
        | (go_at_call 32; (with_reducible refine HCALL.out.mono ?_); rintro e w2 ⟨rfl, hb⟩; have HR2 := Aside0.mk (Kd.R_below HR.out hb); have HB2 := Aside0.mk (below_step HB.out hb); clear hb)
        | ((with_reducible refine gate_builtin (b := .append) (xs := #[.tmp 21, .tmp 23]) rfl ?_); at_builtin; refine Kd.R_append (Kd.int .u32) (w0 := w) w.heap.size rfl (.tmp 21) (.tmp 23) 36 24 (.int .u32 0) 4 rfl Tryd.underlying36 info24r rfl (by decide) (by omega) _ acc x [.int .u32 x] (fun _ => True) (fun _ => False) rfl rfl ?aP (fun _ hk => hk.elim) ?aF ?aO ?aB ?aS ?aL ?_; (case aP => exact rfl); (case aB => exact HB2.out); (case aF => exact (fun _ _ => trivial)); (case aO => exact HR2.out); (case aS => exact HB2.out.size); (case aL => have := HAL.out; omega); intro v1 w1 ho hb hg hat; have HR3 := Aside0.mk ho; have HB3 := Aside0.mk hb; clear ho hb hg hat))
      go_roundg k1
      case measure => omega
      case rel => exact ⟨A2, c2, R, acc ++ [x], rfl, ⟨HN.out.1, HN.out.2.1, HK2.out, HN.out.2.2.1, HN.out.2.2.2.1, HN.out.2.2.2.2⟩, HC2, HR3, HB3⟩
/-- What the reference's DecodeText hands back: the rest is the argument's own cut. -/
def resV (A : Option Addr) (c : Nat) (L : List Int) : Value := if 0 ≤ zeroAt L then .tuple #[.string (strOfNums (L.take (zeroAt L).toNat)), .slice (cutAt A c (zeroAt L + 1).toNat 1) (L.drop (zeroAt L + 1).toNat).length (c - (zeroAt L + 1).toNat), .int .i64 0] else .tuple #[.string ⟨#[]⟩, .slice none 0 0, .int .i64 2]
set_option maxHeartbeats 4000000 in
set_option maxRecDepth 100000 in
theorem refText_at (A : Option Addr) (c : Nat) (L : List Int) (w : World) (hC : Kd.C (Kd.int .u8) w A L.length L) (hc : L.length ≤ c) (hl : L.length ≤ 140737488351232) (hB : BytesL L) :
    Calls Tryd.prog 34 #[.slice A L.length c] w fun e w' => e = .returned (resV A c L) ∧ Below w.heap.size w w' := by
  obtain ⟨T, hT⟩ : ∃ T, T = resV A c L := ⟨_, rfl⟩
  rw [← hT]
  have HT := Aside0.mk hT
  clear hT
  have HC := Aside0.mk hC
  have HK := Aside0.mk hc
  have HL := Aside0.mk hl
  have HBY := Aside0.mk hB
  clear hC hc hl hB
  go_enter Tryd.func34, Tryd.ntmps34
  go_wp2
  go_loopg [5] L.length (fun kq v5 w' => ∃ i : Int, v5 = .int .i64 i ∧ Aside0 (0 ≤ i ∧ i + kq = L.length) ∧ Aside0 (∀ j : Nat, j < i.toNat → rd L (j : Int) ≠ 0) ∧ Aside0 (Below w.heap.size w w'))
  case atStart => exact ⟨0, rfl, ⟨by omega, by omega⟩, ⟨fun j hj => absurd hj (by simp)⟩, ⟨Below.refl _ _⟩⟩
  case round =>
    obtain ⟨i, rfl, HI, HZ, HB⟩ := hrel
    cases gk with
    | zero =>
      have hlt : decide (i < (L.length : Int)) = false := decide_eq_false (by have := HI.out; omega)
      have hz := HZ.out
      have hi := HI.out
      have e : resV A c L = .tuple #[.string ⟨#[]⟩, .slice none 0 0, .int .i64 2] := by
        unfold resV
        rw [zeroAt_none L HBY.out (fun j hj => hz j (by omega)), if_neg (by decide)]
      have HE := Aside0.mk (HT.out.trans e)
      clear hz hi e
      go_wp2
      exact bodyPost_ret (results_tmp3 rfl _ _ _) rfl ⟨by rw [HE.out]; rfl, HB.out⟩
    | succ k1 =>
      have hi := HI.out
      have hL := HL.out
      have hlt : decide (i < (L.length : Int)) = true := decide_eq_true (by omega)
      have p1 : (0 ≤ i) = True := eq_true (by omega)
      have p2 : (i < (L.length : Int)) = True := eq_true (by omega)
      have hw : IntKind.i64.wrap (i + 1) = i + 1 := (i64_w _).trans (by unfold wrap64; omega)
      have hw2 : wrap64 (i + 1) = i + 1 := by unfold wrap64; omega
      obtain ⟨ad, eA, hx⟩ := Kd.at_int (Kd.C_below HC.out HB.out) i (by omega) (by omega)
      cases eA
      by_cases hz : rd L i = 0
      · have hzb : (rd L i == 0) = true := beq_iff_eq.2 hz
        have e : resV (some ad) c L = .tuple #[.string (strOfNums (L.take i.toNat)), .slice (cutAt (some ad) c (i + 1).toNat 1) (L.drop (i + 1).toNat).length (c - (i + 1).toNat), .int .i64 0] := by
          unfold resV
          rw [zeroAt_of L HBY.out i (by omega) (by omega) hz HZ.out, if_pos (by omega)]
        replace e := HT.out.trans e
        have hC1 : Kd.C (Kd.int .u8) wr (some ad) i.toNat (L.take i.toNat) := by
          have h := C_cut (Kd.C_below HC.out HB.out) HK.out 0 i.toNat (by omega)
          rw [List.drop_zero] at h
          unfold cutAt at h
          have := HK.out
          rw [if_neg (show ¬ c = 0 by omega)] at h
          simpa [Addr_add_zero] using h
        have hC2 : Kd.C (Kd.int .u8) wr (cutAt (some ad) c (i + 1).toNat 1) (L.drop (i + 1).toNat).length (L.drop (i + 1).toNat) := by
          have h := C_cut (Kd.C_below HC.out HB.out) HK.out (i + 1).toNat (L.length - (i + 1).toNat) (by omega)
          rw [List.take_of_length_le (by rw [List.length_drop]; omega)] at h
          rw [List.length_drop]
          exact h
        have k1' := run_cut_hi (P := Tryd.prog) Tryd.underlying25 info5z (some ad) L.length c i (by omega) (by have := HK.out; omega)
        have k2' := run_cut_lo (P := Tryd.prog) Tryd.underlying25 info5z (some ad) L.length c (i + 1) (by omega) (by omega)
        have e2 : L.length - (i + 1).toNat = (L.drop (i + 1).toNat).length := by rw [List.length_drop]
        have hk2 : (L.drop (i + 1).toNat).length ≤ c - (i + 1).toNat := by rw [List.length_drop]; have := HK.out; omega
        have hti : (L.take i.toNat).length = i.toNat := by rw [List.length_take]; omega
        rw [e2] at k2'
        obtain ⟨j, hj⟩ : ∃ j, j = i + 1 := ⟨_, rfl⟩
        replace hw : IntKind.i64.wrap (i + 1) = j := hw.trans hj.symm
        replace hw2 : wrap64 (i + 1) = j := hw2.trans hj.symm
        rw [← hj] at k2' hC2 hk2 e
        generalize cutAt (some ad) c j.toNat 1 = A2 at k2' hC2 e
        generalize c - j.toNat = c2 at k2' hk2 e
        obtain ⟨R, hR⟩ : ∃ R, R = L.drop j.toNat := ⟨_, rfl⟩
        obtain ⟨S, hS⟩ : ∃ S, S = L.take i.toNat := ⟨_, rfl⟩
        rw [← hR] at k2' hC2 hk2 e
        rw [← hS] at hC1 hti e
        rw [← hti] at k1' hC1
        have HCV := Aside0.mk (fun (W : World) (hb : Below wr.heap.size wr W) => Kd.C_string (P := Tryd.prog) (A := some ad) (c := c) Tryd.underlying25 Tryd.underlying5 Tryd.underlying9 (Kd.C_below hC1 hb))
        have HC2 := Aside0.mk hC2
        have HK2 := Aside0.mk hk2
        have HE := Aside0.mk e
        have HB0 := Aside0.mk (Below.refl wr.heap.size wr)
        clear hC1 hC2 hk2 hj hR hS e2 e hi hL hti
        go_wp2
        have hcv := HCV.out
        go_region_held3 (fun w' => Below wr.heap.size wr w') (first | exact HB0.out | exact below_drew1 HB0.out) (fail)
        go_wp2
        exact bodyPost_ret (results_tmp3 rfl _ _ _) rfl ⟨by rw [HE.out]; rfl, below_step HB.out (by first | assumption | exact below_drew1 HB0.out)⟩
      · have hzb : (rd L i == 0) = false := beq_eq_false_iff_ne.2 hz
        have HZN := Aside0.mk hz
        clear hz hi hL
        go_wp2
        go_roundg k1
        case measure => omega
        case rel =>
          have hi := HI.out
          refine ⟨i + 1, rfl, ⟨by omega, by omega⟩, ⟨fun j hj => ?_⟩, HB⟩
          by_cases hji : j = i.toNat
          · subst hji
            rw [show ((i.toNat : Nat) : Int) = i by omega]
            exact HZN.out
          · exact HZ.out j (by omega)
def textsA : Nat → List Int → List ByteArray → Option (List ByteArray)
  | 0, M, acc => if M.length = 0 then some acc else none
  | k + 1, M, acc => if M.length = 0 then some acc else if 0 ≤ zeroAt M then textsA k (M.drop (zeroAt M + 1).toNat) (acc ++ [strOfNums (M.take (zeroAt M).toNat)]) else none
def resT : Option (List ByteArray) → List ByteArray × Int
  | some l => (l, 0)
  | none => ([], 15)
theorem textsA_nil (k : Nat) (M : List Int) (acc : List ByteArray) (h : M.length = 0) : textsA k M acc = some acc := by
  cases k <;> (unfold textsA; rw [if_pos h])
set_option maxHeartbeats 4000000 in
set_option maxRecDepth 100000 in
theorem refTexts_calls (A : Option Addr) (c : Nat) (L : List Int) (w : World) (hC : Kd.C (Kd.int .u8) w A L.length L) (hc : L.length ≤ c) (hl : L.length ≤ 4000000) (hB : BytesL L) :
    Calls Tryd.prog 27 #[.slice A L.length c] w fun e w' => ∃ v, e = .returned (.tuple #[v, .int .i64 (resT (textsA L.length L [])).2]) ∧ Kd.R Kd.string 9 w' w.heap.size (fun _ => True) v (resT (textsA L.length L [])).1 ∧ Below w.heap.size w w' := by
  obtain ⟨T, hT⟩ : ∃ T, T = textsA L.length L [] := ⟨_, rfl⟩
  rw [← hT]
  have HT := Aside0.mk hT
  have HB0 := Aside0.mk (Below.refl w.heap.size w)
  have HC := Aside0.mk hC
  have HK := Aside0.mk hc
  have HL := Aside0.mk hl
  have HBY := Aside0.mk hB
  clear hC hc hl hB hT
  go_enter Tryd.func27, Tryd.ntmps27
  go_wp2
  go_loopg [0, 4] L.length (fun kq v0 v4 w' => ∃ (A : Option Addr) (c : Nat) (M : List Int) (acc : List ByteArray), v0 = .slice A M.length c ∧ Aside0 (M.length ≤ kq ∧ kq ≤ L.length ∧ M.length ≤ c ∧ BytesL M ∧ acc.length + kq ≤ L.length ∧ textsA kq M acc = T) ∧ Aside0 (Kd.C (Kd.int .u8) w A M.length M) ∧ Aside0 (Kd.R Kd.string 9 w' w.heap.size (fun _ => True) v4 acc) ∧ Aside0 (Below w.heap.size w w'))
  case atStart => exact ⟨A, c, L, [], rfl, ⟨Nat.le_refl _, Nat.le_refl _, HK.out, HBY.out, by simp, HT.out.symm⟩, HC, ⟨Kd.R_nil _ _ _ _ _⟩, HB0⟩
  case round =>
    obtain ⟨A1, c1, M, acc, rfl, HI, HC1, HR, HB⟩ := hrel
    by_cases h0 : M.length = 0
    · have hi := HI.out
      have hlt : decide ((M.length : Int) > 0) = false := decide_eq_false (by omega)
      have hlt2 : decide (0 < (M.length : Int)) = false := decide_eq_false (by omega)
      have hlt3 : decide (0 < M.length) = false := decide_eq_false (by omega)
      have HE := Aside0.mk (show T = some acc by rw [← hi.2.2.2.2.2, textsA_nil _ _ _ h0])
      clear hi HI HC1 h0
      go_wp2
      go_ret2
      exact ⟨_, by rw [HE.out]; rfl, by rw [HE.out]; exact HR.out, HB.out⟩
    · cases gk with
      | zero => exact absurd (by have := HI.out; omega) h0
      | succ k1 =>
        have hi := HI.out
        have hll := HL.out
        have hzr := zeroAt_range M
        have hlt : decide ((M.length : Int) > 0) = true := decide_eq_true (by omega)
        have hlt2 : decide (0 < (M.length : Int)) = true := decide_eq_true (by omega)
        have hlt3 : decide (0 < M.length) = true := decide_eq_true (by omega)
        have ht := hi.2.2.2.2.2
        rw [textsA, if_neg h0] at ht
        have HCALL := Aside0.mk (refText_at A1 c1 M wr (Kd.C_below HC1.out HB.out) hi.2.2.1 (by omega) hi.2.2.2.1)
        unfold resV at HCALL
        obtain ⟨q, hq⟩ : ∃ q, q = M.length := ⟨_, rfl⟩
        by_cases hz : 0 ≤ zeroAt M
        · rw [if_pos hz] at ht HCALL
          obtain ⟨x, hx⟩ : ∃ x, x = strOfNums (M.take (zeroAt M).toNat) := ⟨_, rfl⟩
          obtain ⟨R, hR⟩ : ∃ R, R = M.drop (zeroAt M + 1).toNat := ⟨_, rfl⟩
          rw [← hx, ← hR] at ht HCALL
          have HC2 := Aside0.mk (show Kd.C (Kd.int .u8) w (cutAt A1 c1 (zeroAt M + 1).toNat 1) R.length R from by
            have h := C_cut HC1.out hi.2.2.1 (zeroAt M + 1).toNat (M.length - (zeroAt M + 1).toNat) (by omega)
            rw [List.take_of_length_le (by rw [List.length_drop]; omega)] at h
            rw [hR, List.length_drop]
            exact h)
          have HK2 := Aside0.mk (show R.length ≤ c1 - (zeroAt M + 1).toNat by rw [hR, List.length_drop]; omega)
          have HN := Aside0.mk (show R.length ≤ k1 ∧ k1 ≤ L.length ∧ BytesL R ∧ (acc ++ [x]).length + k1 ≤ L.length ∧ textsA k1 R (acc ++ [x]) = T from
            ⟨by rw [hR, List.length_drop]; omega, by omega, by rw [hR]; exact drop_BL hi.2.2.2.1 _, by rw [List.length_append, List.length_singleton]; omega, ht⟩)
          have HAL := Aside0.mk (show acc.length ≤ 4000000 by omega)
          rw [← hq] at hlt hlt2 hlt3 HCALL
          generalize cutAt A1 c1 (zeroAt M + 1).toNat 1 = A2 at HCALL HC2
          generalize c1 - (zeroAt M + 1).toNat = c2 at HCALL HK2
          simp only [← hq]
          clear hi hll hq hx hR HC1 h0 hzr hz ht HI
          go_wp2_with (first
            | (go_at_call 34; (with_reducible refine HCALL.out.mono ?_); rintro e w2 ⟨rfl, hb⟩; have HR2 := Aside0.mk (Kd.R_below HR.out hb); have HB2 := Aside0.mk (below_step HB.out hb); clear hb)
            | ((with_reducible refine gate_builtin (b := .append) (xs := #[.tmp 19, .tmp 21]) rfl ?_); at_builtin; refine Kd.R_append Kd.string (w0 := w) w.heap.size rfl (.tmp 19) (.tmp 21) 39 9 (.string ⟨#[]⟩) 16 rfl Tryd.underlying39 info9 rfl (by decide) (by omega) _ acc x [.string x] (fun _ => True) (fun _ => False) rfl rfl ?aP (fun _ hk => hk.elim) ?aF ?aO ?aB ?aS ?aL ?_; (case aP => exact rfl); (case aB => exact HB2.out); (case aF => exact (fun _ _ => trivial)); (case aO => exact HR2.out); (case aS => exact HB2.out.size); (case aL => have := HAL.out; omega); intro v1 w1 ho hb hg hat; have HR3 := Aside0.mk ho; have HB3 := Aside0.mk hb; clear ho hb hg hat))
          go_roundg k1
          case measure => omega
          case rel => exact ⟨A2, c2, R, acc ++ [x], rfl, ⟨HN.out.1, HN.out.2.1, HK2.out, HN.out.2.2.1, HN.out.2.2.2.1, HN.out.2.2.2.2⟩, HC2, HR3, HB3⟩
        · rw [if_neg hz] at ht HCALL
          have HE := Aside0.mk ht.symm
          rw [← hq] at hlt hlt2 hlt3 HCALL
          simp only [← hq]
          clear hi hll hq HC1 h0 hzr hz ht HI
          go_wp2_with (first
            | (go_at_call 34; (with_reducible refine HCALL.out.mono ?_); rintro e w2 ⟨rfl, hb⟩; have HB2 := Aside0.mk (below_step HB.out hb); clear hb))
          go_ret2
          exact ⟨_, by rw [HE.out]; rfl, by rw [HE.out]; exact Kd.R_nil _ _ _ _ _, HB2.out⟩
end Go.Proofs.YtlhnaplmphdhlaaDoor.Q
end
section
set_option linter.unusedSimpArgs false
set_option linter.unusedVariables false
namespace Go.Proofs.YtlhnaplmphdhlaaDoor.Q
open Go.RowKit Go.Proofs.YtlhnaplmphdhlaaDoorW.PrintWords Go.Proofs.YtlhnaplmphdhlaaDoorW.PrintLast
def piecesB (M : List Int) : List ByteArray := (cuts 0 (Lib.bytesOf M)).map fun l => ⟨l.toArray⟩
theorem bytesOf_take (M : List Int) (i : Nat) : Lib.bytesOf (M.take i) = (Lib.bytesOf M).take i := by unfold Lib.bytesOf; rw [List.map_take]
theorem bytesOf_drop (M : List Int) (i : Nat) : Lib.bytesOf (M.drop i) = (Lib.bytesOf M).drop i := by unfold Lib.bytesOf; rw [List.map_drop]
theorem str_mk (M : List Int) : strOfNums M = ⟨(Lib.bytesOf M).toArray⟩ := rfl
theorem app_BL {M N : List Int} (hM : BytesL M) (hN : BytesL N) : BytesL (M ++ N) := fun a ha => by
  rcases List.mem_append.1 ha with h | h
  · exact hM a h
  · exact hN a h
theorem zero_BL : BytesL [0] := fun a ha => by
  obtain rfl := List.mem_singleton.1 ha
  exact ⟨by decide, by decide⟩
theorem rd_app_lt (M N : List Int) (k : Nat) (h : k < M.length) : rd (M ++ N) (k : Int) = rd M (k : Int) := by
  unfold rd
  rw [Int.toNat_natCast, List.getD_eq_getElem?_getD, List.getD_eq_getElem?_getD, List.getElem?_append_left h]
theorem zeroAt_yes (M : List Int) (hB : BytesL M) (h : 0 ≤ zeroAt M) : rd M (zeroAt M) = 0 ∧ ∀ j : Nat, j < (zeroAt M).toNat → rd M (j : Int) ≠ 0 := by
  have hr := zeroAt_range M
  obtain ⟨o, ho⟩ := Int.eq_ofNat_of_zero_le h
  obtain ⟨s1, s2⟩ := Lib.indexByte_some (l := Lib.bytesOf M) (c := 0) ho
  refine ⟨by rw [ho]; exact (at_byte M hB o (by omega)).1 s1, fun j hj hz => ?_⟩
  exact s2 j (by omega) ((at_byte M hB j (by omega)).2 hz)
theorem zeroAt_no (M : List Int) (hB : BytesL M) (h : ¬ 0 ≤ zeroAt M) (j : Nat) (hj : j < M.length) : rd M (j : Int) ≠ 0 := by
  have hr := zeroAt_range M
  have hm : zeroAt M = -1 := by omega
  intro hz
  exact Lib.indexByte_none hm j ((at_byte M hB j hj).2 hz)
theorem zeroAt_app_yes (M : List Int) (hB : BytesL M) (h : 0 ≤ zeroAt M) : zeroAt (M ++ [0]) = zeroAt M := by
  have hr := zeroAt_range M
  obtain ⟨h1, h2⟩ := zeroAt_yes M hB h
  refine zeroAt_of (M ++ [0]) (app_BL hB zero_BL) _ h (by rw [List.length_append, List.length_singleton]; omega) ?_ (fun j hj => ?_)
  · obtain ⟨o, ho⟩ := Int.eq_ofNat_of_zero_le h
    rw [ho] at h1 hr ⊢
    rw [rd_app_lt M [0] o (by omega)]
    exact h1
  · rw [rd_app_lt M [0] j (by omega)]
    exact h2 j hj
theorem zeroAt_app_no (M : List Int) (hB : BytesL M) (h : ¬ 0 ≤ zeroAt M) : zeroAt (M ++ [0]) = M.length := by
  refine zeroAt_of (M ++ [0]) (app_BL hB zero_BL) _ (by omega) (by rw [List.length_append, List.length_singleton]; omega) ?_ (fun j hj => ?_)
  · unfold rd
    rw [Int.toNat_natCast, List.getD_eq_getElem?_getD, List.getElem?_append_right (Nat.le_refl _)]
    simp
  · rw [rd_app_lt M [0] j (by omega)]
    exact zeroAt_no M hB h j (by omega)
theorem textsA_end : ∀ (n k : Nat) (M : List Int) (acc : List ByteArray), M.length < n → BytesL M → M.length + 1 ≤ k → textsA k (M ++ [0]) acc = some (acc ++ piecesB M)
  | 0, _, _, _, h, _, _ => absurd h (by omega)
  | n + 1, k, M, acc, h, hB, hk => by
    obtain ⟨k, rfl⟩ : ∃ m, k = m + 1 := ⟨k - 1, by omega⟩
    have hr := zeroAt_range M
    rw [textsA, if_neg (by rw [List.length_append, List.length_singleton]; omega)]
    by_cases hz : 0 ≤ zeroAt M
    · obtain ⟨o, ho⟩ := Int.eq_ofNat_of_zero_le hz
      have ec : piecesB M = strOfNums (M.take o) :: piecesB (M.drop (o + 1)) := by
        unfold piecesB
        rw [cuts_some 0 (l := Lib.bytesOf M) (i := o) ho, List.map_cons, bytesOf_drop, str_mk, bytesOf_take]
      rw [zeroAt_app_yes M hB hz, if_pos hz, ho, ec]
      rw [show ((o : Int) + 1).toNat = o + 1 by omega, show ((o : Int)).toNat = o from rfl]
      rw [List.drop_append_of_le_length (by omega), List.take_append_of_le_length (by omega), textsA_end n k (M.drop (o + 1)) _ (by rw [List.length_drop]; omega) (drop_BL hB _) (by rw [List.length_drop]; omega), List.append_assoc]
      rfl
    · have hm : zeroAt M = -1 := by omega
      have ec : piecesB M = [strOfNums M] := by
        unfold piecesB
        rw [cuts_none 0 (l := Lib.bytesOf M) hm]
        rfl
      rw [zeroAt_app_no M hB hz, if_pos (by omega), ec]
      rw [show ((M.length : Int) + 1).toNat = M.length + 1 by omega, show ((M.length : Int)).toNat = M.length from rfl, List.drop_eq_nil_of_le (by rw [List.length_append, List.length_singleton]; omega), List.take_left, textsA_nil _ _ _ rfl]
theorem textsA_bad : ∀ (n k : Nat) (M : List Int) (acc : List ByteArray), M.length < n → BytesL M → 0 < M.length → rd M ((M.length - 1 : Nat) : Int) ≠ 0 → textsA k M acc = none
  | 0, _, _, _, h, _, _, _ => absurd h (by omega)
  | n + 1, k, M, acc, h, hB, h0, hl => by
    have hr := zeroAt_range M
    cases k with
    | zero => unfold textsA; rw [if_neg (by omega)]
    | succ k =>
      rw [textsA, if_neg (by omega)]
      by_cases hz : 0 ≤ zeroAt M
      · obtain ⟨h1, _⟩ := zeroAt_yes M hB hz
        obtain ⟨o, ho⟩ := Int.eq_ofNat_of_zero_le hz
        have hlt : o < M.length - 1 := by
          rcases Nat.lt_or_ge o (M.length - 1) with h | h
          · exact h
          · exfalso
            rw [ho, show o = M.length - 1 by omega] at h1
            exact hl h1
        rw [if_pos hz, ho, show ((o : Int) + 1).toNat = o + 1 by omega]
        refine textsA_bad n k (M.drop (o + 1)) _ (by rw [List.length_drop]; omega) (drop_BL hB _) (by rw [List.length_drop]; omega) ?_
        rw [List.length_drop]
        have e : rd (M.drop (o + 1)) ((M.length - (o + 1) - 1 : Nat) : Int) = rd M ((M.length - 1 : Nat) : Int) := by
          unfold rd
          rw [Int.toNat_natCast, Int.toNat_natCast, List.getD_eq_getElem?_getD, List.getD_eq_getElem?_getD, List.getElem?_drop]
          congr 2
          omega
        rw [e]
        exact hl
      · rw [if_neg hz]
theorem split_cuts : ∀ (n : Nat) (S : ByteArray), S.size < n → Lib.splitB ⟨#[0]⟩ 0 (Lib.countB S ⟨#[0]⟩) S = (cuts 0 S.data.toList).map fun l => (⟨l.toArray⟩ : ByteArray)
  | 0, _, h => absurd h (by omega)
  | n + 1, S, h => by
    have hx : Lib.indexB S ⟨#[0]⟩ = Lib.indexByte S.data.toList 0 := Lib.index_one S.data.toList 0
    by_cases hz : Lib.indexByte S.data.toList 0 = -1
    · rw [Lib.countB_miss S ⟨#[0]⟩ (hx.trans hz), Lib.splitB_zero, cuts_none 0 hz]
      rw [List.map_cons, List.map_nil, mk_list]
    · have hg := Lib.indexByte_ge S.data.toList 0
      obtain ⟨o, ho⟩ := Int.eq_ofNat_of_zero_le (show 0 ≤ Lib.indexByte S.data.toList 0 by omega)
      have hlt : o < S.size := by
        have h1 := (Lib.indexByte_some ho).1
        have h2 := (List.getElem?_eq_some_iff.1 h1).1
        rw [data_length] at h2
        exact h2
      rw [Lib.countB_hit S ⟨#[0]⟩ o (by decide) (hx.trans ho), Nat.add_comm, Lib.splitB, hx, ho, if_neg (by simp), cuts_some 0 ho, List.map_cons]
      have e1 : ((o : Int).toNat + 0) = o := by omega
      have e2 : (o : Int).toNat + (⟨#[0]⟩ : ByteArray).size = o + 1 := by show (o : Int).toNat + 1 = _; omega
      have e3 : o + (⟨#[0]⟩ : ByteArray).size = o + 1 := rfl
      rw [e1, e2, e3, split_cuts n (S.extract (o + 1) S.size) (by rw [ByteArray.size_extract]; omega), extract_take, extract_drop]
end Go.Proofs.YtlhnaplmphdhlaaDoor.Q
end
section
set_option linter.unusedSimpArgs false
set_option linter.unusedVariables false
namespace Go.Proofs.YtlhnaplmphdhlaaDoor.Q
open Go.RowKit Go.Proofs.YtlhnaplmphdhlaaDoorW.PrintWords Go.Proofs.YtlhnaplmphdhlaaDoorW.PrintLast
theorem numsR_map : ∀ (m : Nat) (L : List Int), numsR m L = (List.range m).map fun k => dec (L.drop (4 * k)) 4
  | 0, _ => rfl
  | m + 1, L => by
    rw [numsR, numsR_map m (L.drop 4), List.range_succ_eq_map, List.map_cons, List.map_map]
    congr 1
    apply List.map_congr_left
    intro k _
    show dec ((L.drop 4).drop (4 * k)) 4 = dec (L.drop (4 * (k + 1))) 4
    rw [List.drop_drop]
    congr 2
    omega
theorem rd_take (L : List Int) (n : Nat) (i : Int) (h : i.toNat < n) : rd (L.take n) i = rd L i := by
  unfold rd
  rw [List.getD_eq_getElem?_getD, List.getD_eq_getElem?_getD, List.getElem?_take_of_lt h]
theorem num_dec (L : List Int) (hB : BytesL L) (k : Nat) : nv_numF (fourAt L k) = dec (L.drop (4 * k)) 4 := by
  have hB2 := drop_BL hB (4 * k)
  rw [dec_four]
  unfold nv_numF fourAt
  rw [rd_take _ 4 0 (by decide), rd_take _ 4 1 (by decide), rd_take _ 4 2 (by decide), rd_take _ 4 3 (by decide)]
  exact or_four _ _ _ _ (rd_B hB2 0) (rd_B hB2 1) (rd_B hB2 2) (rd_B hB2 3)
theorem nums_eq (L : List Int) (hB : BytesL L) : allNums L = numsR (L.length / 4) L := by
  rw [numsR_map]
  unfold allNums
  apply List.map_congr_left
  intro k _
  exact num_dec L hB k
/-- What Texts answers. -/
def textsG (L : List Int) : List ByteArray × Int := if L.length = 0 then ([], 0) else if rd L ((L.length - 1 : Nat) : Int) = 0 then (piecesB (L.take (L.length - 1)), 0) else ([], 15)
theorem last_app (L : List Int) (h : L.length ≠ 0) (hz : rd L ((L.length - 1 : Nat) : Int) = 0) : L = L.take (L.length - 1) ++ [0] := by
  obtain ⟨M, a, rfl⟩ : ∃ M a, L = M ++ [a] := by
    have hne : L ≠ [] := fun e => h (by rw [e]; rfl)
    exact ⟨L.dropLast, L.getLast hne, (List.dropLast_concat_getLast hne).symm⟩
  have hl : (M ++ [a]).length - 1 = M.length := by simp
  rw [hl] at hz ⊢
  rw [List.take_left]
  unfold rd at hz
  rw [Int.toNat_natCast, List.getD_eq_getElem?_getD, List.getElem?_append_right (Nat.le_refl _)] at hz
  simp at hz
  rw [hz]
theorem texts_eq (L : List Int) (hB : BytesL L) : resT (textsA L.length L []) = textsG L := by
  unfold textsG
  by_cases h0 : L.length = 0
  · rw [if_pos h0, textsA_nil _ _ _ h0]; rfl
  · rw [if_neg h0]
    by_cases hz : rd L ((L.length - 1 : Nat) : Int) = 0
    · rw [if_pos hz]
      have e := last_app L h0 hz
      have e2 : textsA L.length (L.take (L.length - 1) ++ [0]) [] = some ([] ++ piecesB (L.take (L.length - 1))) :=
        textsA_end _ _ _ _ (Nat.lt_succ_self _) (fun a ha => hB a (List.mem_of_mem_take ha)) (by rw [List.length_take]; omega)
      rw [← e] at e2
      rw [e2]
      rfl
    · rw [if_neg hz, textsA_bad _ _ L [] (Nat.lt_succ_self _) hB (by omega) hz]
      rfl
theorem suffix_last (L : List Int) (hB : BytesL L) : Lib.hasSuffix (strOfNums L).data.toList [0] = decide (L.length ≠ 0 ∧ rd L ((L.length - 1 : Nat) : Int) = 0) := by
  have e : (strOfNums L).data.toList = Lib.bytesOf L := rfl
  have e0 : ([0] : List UInt8) = Lib.bytesOf [0] := rfl
  rw [e, e0, ← Lib.bytes_hasSuffix]
  by_cases h0 : L.length = 0
  · simp [h0]
  · rw [decide_eq_true (show ([0] : List Int).length ≤ L.length by simp; omega), Bool.true_and]
    have hlen : ([0] : List Int).length = 1 := rfl
    rw [hlen]
    have hd : L.drop (L.length - 1) = [rd L ((L.length - 1 : Nat) : Int)] := by
      unfold rd
      rw [Int.toNat_natCast, List.getD_eq_getElem?_getD, List.getElem?_eq_getElem (by omega), Option.getD_some]
      rw [List.drop_eq_getElem_cons (by omega)]
      rw [List.drop_eq_nil_of_le (by omega)]
    rw [hd]
    have hb := rd_B hB ((L.length - 1 : Nat) : Int)
    generalize rd L ((L.length - 1 : Nat) : Int) = x at hb ⊢
    by_cases hx : x = 0
    · subst hx; simp [h0]
    · have : (Lib.bytesOf [x] == Lib.bytesOf [0]) = false := by
        apply beq_eq_false_iff_ne.2
        intro h
        unfold Lib.bytesOf at h
        simp only [List.map_cons, List.map_nil, List.cons.injEq, and_true] at h
        apply hx
        have h2 := congrArg UInt8.toNat h
        rw [UInt8.toNat_ofNat'] at h2
        simp at h2
        omega
      rw [this]
      simp [hx]
end Go.Proofs.YtlhnaplmphdhlaaDoor.Q
end
