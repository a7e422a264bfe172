/- prop.ParseUnit. -/
import Derived.RangeFuncWrites
import Derived.RangeFuncBox
import Derived.Test.YtlhnaplmphdhlaaDoorHSplit
import Derived.Test.YtlhnaplmphdhlaaDoorHDigitP
set_option linter.unusedSimpArgs false
set_option linter.unusedVariables false
namespace Go.Proofs.YtlhnaplmphdhlaaDoor.Q
open Go.RowKit Go.Shelf Go.Proofs.YtlhnaplmphdhlaaDoorW.PrintWords Go.Proofs.YtlhnaplmphdhlaaDoorW.PrintLast
attribute [local go_sem] Oper.semAt_some
def bOf (p : List UInt8) : ByteArray := ⟨p.toArray⟩
theorem bOf_size (p : List UInt8) : (bOf p).size = p.length := by
  show p.toArray.size = _
  simp
def pcAt (L : List (List UInt8)) (k : Nat) : ByteArray := bOf (L.getD k [])
def okU (p : List UInt8) : Bool := decide ((parF (bOf p) 16).2 = 0) && !decide (bt (bOf p) 0 = 45) && decide (p.length ≤ 8)
def valU (p : List UInt8) : Int := (parF (bOf p) 16).1
def unitF (s : ByteArray) : List Int × Int := if (cuts 44 s.data.toList).all okU = true then (if 4 < (cuts 44 s.data.toList).length then ([], 3) else ((cuts 44 s.data.toList).map valU, 0)) else ([], 15)
theorem cuts_len (c : UInt8) : ∀ l : List UInt8, (cuts c l).length ≤ l.length + 1
  | [] => by simp [cuts]
  | a :: l => by
    have h := cuts_len c l
    rw [cuts]
    split
    · simp; omega
    · split
      · rename_i h2; rw [h2] at h; simp at h ⊢; omega
      · simp
theorem cuts_size (c : UInt8) : ∀ (l : List UInt8), ∀ p ∈ cuts c l, p.length ≤ l.length
  | [] => by simp [cuts]
  | a :: l => by
    have h := cuts_size c l
    rw [cuts]
    intro p hp
    split at hp
    · rcases List.mem_cons.1 hp with rfl | hp
      · simp
      · have := h p hp; simp; omega
    · split at hp
      · rename_i q qs h2
        rw [h2] at h
        rcases List.mem_cons.1 hp with rfl | hp
        · have := h q (by simp); simp; omega
        · have := h p (by simp [hp]); simp; omega
      · simp at hp; subst hp; simp
theorem info24i : (Tryd.prog.info? 24).map (fun i => (i.zero, i.size, i.bytes)) = some (some (.int .u32 0), 1, 4) := by kernel_rfl
theorem bt_idx (s : ByteArray) (h : 0 < s.size) : ((s[0]'h).toNat : Int) = bt s 0 := by
  unfold bt
  rw [dif_pos (by simpa using h)]
  rfl
theorem parF_pos {s : ByteArray} (h : (parF s 16).2 = 0) : 0 < s.size := by
  rcases Nat.eq_zero_or_pos s.size with h0 | h0
  · exfalso
    have e : s = ⟨#[]⟩ := by
      apply ByteArray.ext
      apply Array.ext'
      exact List.eq_nil_of_length_eq_zero (by rw [Array.length_toList]; exact h0)
    rw [e] at h
    exact absurd h (by decide)
  · exact h0
set_option maxHeartbeats 1000000 in
theorem splitSeq1_in (n : Nat) (s : ByteArray) (c : UInt8) (W : World) :
    CallsIn Fence.wide n Tryd.prog 73 #[.string s, .string ⟨#[c]⟩, .int .i64 0] W fun e w' => e = .returned (.func (.func 92) #[] #[.pointer (some ⟨W.heap.size + 1, 0, none⟩), .pointer (some ⟨W.heap.size, 0, none⟩), .pointer (some ⟨W.heap.size + 1 + 1, 0, none⟩)]) ∧ w' = ((W.alloc (.cells #[.string s] 9)).alloc (.cells #[.string ⟨#[c]⟩] 9)).alloc (.cells #[.int .i64 0] 3) := by
  refine callsIn_of_wp Tryd.func73 rfl trivial ?_ rfl
  simp only [Tryd.ntmps73, List.size_toArray, List.length_cons, List.length_nil, Nat.reduceAdd, Nat.reduceSub, Array.replicate_succ, Array.replicate_zero, List.push_toArray, List.append_toArray, List.nil_append, List.cons_append]
  gi_wp2
  go_ret
  exact ⟨by simp, rfl⟩
set_option maxHeartbeats 1000000 in
theorem splitSeq_in (s : ByteArray) (c : UInt8) (w : World) :
    CallsIn Fence.wide 4 Tryd.prog 53 #[.string s, .string ⟨#[c]⟩] w fun e w' => e = .returned (.func (.func 92) #[] #[.pointer (some ⟨w.heap.size + 1, 0, none⟩), .pointer (some ⟨w.heap.size, 0, none⟩), .pointer (some ⟨w.heap.size + 1 + 1, 0, none⟩)]) ∧ w' = ((w.alloc (.cells #[.string s] 9)).alloc (.cells #[.string ⟨#[c]⟩] 9)).alloc (.cells #[.int .i64 0] 3) := by
  refine callsIn_of_wp Tryd.func53 rfl trivial ?_ rfl
  simp only [Tryd.ntmps53, List.size_toArray, List.length_cons, List.length_nil, Nat.reduceAdd, Nat.reduceSub, Array.replicate_succ, Array.replicate_zero, List.push_toArray, List.append_toArray, List.nil_append, List.cons_append]
  gi_wp2_with (refine ⟨trivial, ?_⟩; gi_at_call 73; refine (splitSeq1_in _ _ _ _).mono ?_; rintro e w' ⟨rfl, rfl⟩)
  go_ret
  exact ⟨rfl, rfl⟩
/-- What stands between two rounds: the numbers so far, the two results, the iterator's cells. -/
def UnitI (w : World) (L : List (List UInt8)) (k : Nat) (W : World) : Prop :=
  ((∃ v, Boxed W (w.heap.size + 1 + 1) 36 v ∧ W.ownsRow w.heap.size 24 1 v k (((L.map valU).take k).map (Value.int .u32)) ∧ ∀ p ∈ L.take k, okU p = true) ∧ (Boxed W w.heap.size 36 (.slice none 0 0) ∧ Boxed W (w.heap.size + 1) 26 (.int .i64 0))) ∧
    ((∃ t, Boxed W (w.heap.size + 1 + 1 + 1) 9 t) ∧ (∃ t, Boxed W (w.heap.size + 1 + 1 + 1 + 1) 9 t) ∧ (∃ t, Boxed W (w.heap.size + 1 + 1 + 1 + 1 + 1) 3 t)) ∧ Below w.heap.size w W
def UnitX (w : World) (L : List (List UInt8)) (c : Code) (k : Nat) (W : World) : Prop := (c = .ret ∧ ¬ ∀ p ∈ L, okU p = true) ∧ Boxed W w.heap.size 36 (.slice none 0 0) ∧ Boxed W (w.heap.size + 1) 26 (.int .i64 15) ∧ Below w.heap.size w W
theorem someBoxed_own {β : Type} (B : Nat) (t : TypeId) : Own (fun (_ : β) W => ∃ v, Boxed W B t v) := fun s X Y row ⟨v, hv⟩ hg hrow => ⟨v, boxed_own (β := β) B t (fun _ => v) s X Y row hv hg hrow⟩
theorem unitI_own (w : World) (L : List (List UInt8)) (B : Nat) (hB : w.heap.size ≤ B) : OwnFrom B (UnitI w L) :=
  OwnFrom.and (OwnFrom.and (Own.from (holdsRow_own w.heap.size (w.heap.size + 1 + 1) 36 24 1 (fun k => k) (fun k => ((L.map valU).take k).map (Value.int .u32)) (fun k _ => ∀ p ∈ L.take k, okU p = true)) _) (OwnFrom.and (Own.from (boxed_own _ _ _) _) (Own.from (boxed_own _ _ _) _)))
    (OwnFrom.and (OwnFrom.and (Own.from (someBoxed_own _ _) _) (OwnFrom.and (Own.from (someBoxed_own _ _) _) (Own.from (someBoxed_own _ _) _))) (ownFrom_below (Nat.le_refl _) hB))
theorem unitX_own (w : World) (L : List (List UInt8)) (c : Code) (B : Nat) (hB : w.heap.size ≤ B) : OwnFrom B (UnitX w L c) :=
  OwnFrom.and (fun _ _ _ _ h _ _ => h) (OwnFrom.and (Own.from (boxed_own _ _ _) _) (OwnFrom.and (Own.from (boxed_own _ _ _) _) (ownFrom_below (Nat.le_refl _) hB)))
theorem unitI_abs (w : World) (L : List (List UInt8)) (k : Nat) (A B : World) (h : UnitI w L k A) (hab : AbS (w.heap.size + 1 + 1 + 1) A B) : UnitI w L k B := by
  obtain ⟨u, rfl⟩ := hab
  obtain ⟨⟨⟨v, hv, hrow, hok⟩, h1, h2⟩, ⟨⟨t3, h3⟩, ⟨t4, h4⟩, t5, h5⟩, hb⟩ := h
  refine ⟨⟨⟨v, hv.other (by omega) u, hrow.kept (grownBy_setCell' A _ u) (.inr (h3.not_row (by decide) hrow).symm), hok⟩, h1.other (by omega) u, h2.other (by omega) u⟩, ⟨⟨u, h3.set u⟩, ⟨t4, h4.other (by omega) u⟩, t5, h5.other (by omega) u⟩, below_set hb (by omega)⟩
theorem unitX_abs (w : World) (L : List (List UInt8)) (c : Code) (k : Nat) (A B : World) (h : UnitX w L c k A) (hab : AbS (w.heap.size + 1 + 1 + 1) A B) : UnitX w L c k B := by
  obtain ⟨u, rfl⟩ := hab
  exact ⟨h.1, h.2.1.other (by omega) u, h.2.2.1.other (by omega) u, below_set h.2.2.2 (by omega)⟩
theorem unit_out (w : World) (L : List (List UInt8)) (Kp : World → World → Prop) (k nn : Nat) (W : World) (a : Act) (h1 : Boxed W w.heap.size 36 (.slice none 0 0)) (h2 : Boxed W (w.heap.size + 1) 26 (.int .i64 0)) (hB : Below w.heap.size w W) (hX : ¬ ∀ p ∈ L, okU p = true) :
    RoundPost Kp (UnitI w L) (UnitX w L) k W .ret a (((W.drewN nn).setCell ⟨w.heap.size, 0, none⟩ (.slice none 0 0)).setCell ⟨w.heap.size + 1, 0, none⟩ (.int .i64 15)) := by
  have k1 : KeepsOthers W (W.drewN nn) := ⟨Nat.le_refl _, fun _ _ h _ => h⟩
  have g1 : Boxed (W.drewN nn) w.heap.size 36 (.slice none 0 0) := h1
  have g2 : Boxed (W.drewN nn) (w.heap.size + 1) 26 (.int .i64 0) := h2
  exact ⟨(k1.trans (KeepsOthers.setCell _ _ _)).trans (KeepsOthers.setCell _ _ _), ⟨rfl, hX⟩, (g1.set _).other (by omega) _, ((g2.other (by omega) _).set _), below_set (below_set (pw_below_drewN hB nn) (Nat.le_refl _)) (by omega)⟩
set_option maxRecDepth 100000 in
theorem unit_end (w X : World) (D : Nat) (hD : w.heap.size + 1 < D) (tmps : Array Value) (v : Value) (e0 : Int) (r : List Int) (ht2 : tmps.getD 2 undef = .pointer (some ⟨w.heap.size, 0, none⟩)) (ht3 : tmps.getD 3 undef = .pointer (some ⟨w.heap.size + 1, 0, none⟩))
    (hK : X.heap[D]? = some (.deferred (some []))) (g1 : Boxed X w.heap.size 36 v) (g2 : Boxed X (w.heap.size + 1) 26 (.int .i64 e0)) (hrow : X.ownsRow w.heap.size 24 1 v r.length (r.map (Value.int .u32))) (hB : Below w.heap.size w X) :
    bodyPostM Fence.wide 5 Tryd.prog Tryd.f35 (fun e W' => ∃ v, e = .returned (.tuple #[v, .int .i64 e0]) ∧ Kd.R (Kd.int .u32) 24 W' w.heap.size (fun _ => True) v r ∧ Below w.heap.size w W') Exit.ret { tmps := tmps, defers := [{ target := .collected D, args := #[] }] } X := by
  refine ⟨by simp, .inl ⟨_, _, rfl, run_takeDeferred hK, ?_⟩⟩
  have k1 : Boxed (X.putObj D (.deferred none)) w.heap.size 36 v := (World.putObj_heap_other (by omega)).trans g1
  have k2 : Boxed (X.putObj D (.deferred none)) (w.heap.size + 1) 26 (.int .i64 e0) := (World.putObj_heap_other (by omega)).trans g2
  have c1 := k1.cell
  have c2 := k2.cell
  have hrow2 := ownsRow_putObj hrow (.deferred none) hK rfl
  refine ⟨_, ?_, v, rfl, Kd.R_of_own (xs := r) hrow2 (fun _ _ => trivial), hB.trans (belowK_b (w := w) (Nat.le_refl _) X D _ _ (by omega) hK rfl rfl)⟩
  have hRR : Kd.R (Kd.int .u32) 24 (X.putObj D (.deferred none)) w.heap.size (fun _ => True) v r := Kd.R_of_own (xs := r) hrow2 (fun _ _ => trivial)
  obtain ⟨A, c, hv⟩ := Kd.R_slice hRR
  subst hv
  rw [Array.getD_eq_getD_getElem?] at ht2 ht3
  simp [results, Tryd.results35, go_sem, ht2, ht3, c1, c2]
set_option maxRecDepth 100000 in
set_option maxHeartbeats 4000000 in
theorem unit_calls (s : ByteArray) (w : World) (hs : s.size ≤ 100000000) :
    Calls Tryd.prog 35 #[.string s] w fun e W' => ∃ v, e = .returned (.tuple #[v, .int .i64 (unitF s).2]) ∧ Kd.R (Kd.int .u32) 24 W' w.heap.size (fun _ => True) v (unitF s).1 ∧ Below w.heap.size w W' := by
  refine (callsIn_wide (n := 5)).1 ?_
  obtain ⟨i0, hi, hz0, hz1, hz2⟩ := info_parts info24i
  obtain ⟨L, hL⟩ : ∃ L, L = cuts 44 s.data.toList := ⟨_, rfl⟩
  have HLl := Aside0.mk (show L.length ≤ 100000001 by
    have := cuts_len 44 s.data.toList
    rw [hL]
    have e : s.data.toList.length = s.size := Array.length_toList
    omega)
  have HLs := Aside0.mk (show ∀ p ∈ L, p.length ≤ 100000000 by
    intro p hp
    have := cuts_size 44 s.data.toList p (hL ▸ hp)
    have e : s.data.toList.length = s.size := Array.length_toList
    omega)
  have HSq := Aside0.mk (show ∀ W0 : World, W0.heap[w.heap.size + 1 + 1 + 1]? = some (.cells #[.string s] 9 (0, 0)) → W0.heap[w.heap.size + 1 + 1 + 1 + 1]? = some (.cells #[.string ⟨#[44]⟩] 9 (0, 0)) → W0.heap[w.heap.size + 1 + 1 + 1 + 1 + 1]? = some (.cells #[.int .i64 0] 3 (0, 0)) →
      SeqL 4 Tryd.prog 92 #[.pointer (some ⟨w.heap.size + 1 + 1 + 1 + 1, 0, none⟩), .pointer (some ⟨w.heap.size + 1 + 1 + 1, 0, none⟩), .pointer (some ⟨w.heap.size + 1 + 1 + 1 + 1 + 1, 0, none⟩)] (AbS (w.heap.size + 1 + 1 + 1)) (KpS (w.heap.size + 1 + 1 + 1) (w.heap.size + 1 + 1 + 1 + 1) (w.heap.size + 1 + 1 + 1 + 1 + 1)) (L.map pieceV) W0 from fun W0 h1 h2 h3 => by
    rw [hL]
    exact split_seq 44 4 (by decide) _ _ _ (by omega) (by omega) s (by omega) W0 h1 h2 h3)
  obtain ⟨R, hR⟩ : ∃ R, R = unitF s := ⟨_, rfl⟩
  rw [← hR]
  have HR := Aside0.mk (show R = if L.all okU = true then (if 4 < L.length then ([], 3) else (L.map valU, 0)) else ([], 15) by rw [hR, hL]; rfl)
  clear hR hL hs
  refine callsIn_of_wp_marks Tryd.func35 rfl trivial ?_ rfl
  simp only [Tryd.ntmps35, List.size_toArray, List.length_cons, List.length_nil, Nat.reduceAdd, Nat.reduceSub, Array.replicate_succ, Array.replicate_zero, List.push_toArray, List.append_toArray, List.nil_append, List.cons_append]
  gi_wp2_with (refine ⟨trivial, ?_⟩; gi_at_call 53; refine (splitSeq_in _ _ _).mono ?_; rintro e w' ⟨rfl, rfl⟩)
  obtain ⟨W0, hW0⟩ : ∃ W0, W0 = (((((w.alloc (.cells #[.slice none 0 0] 36)).alloc (.cells #[.int .i64 0] 26)).alloc (.cells #[.slice none 0 0] 36)).alloc (.cells #[.string s] 9)).alloc (.cells #[.string ⟨#[44]⟩] 9)).alloc (.cells #[.int .i64 0] 3) := ⟨_, rfl⟩
  have b0 : Boxed W0 w.heap.size 36 (.slice none 0 0) := by rw [hW0]; exact (((((Boxed.new w 36 (.slice none 0 0)).alloc _).alloc _).alloc _).alloc _).alloc _
  have b1 : Boxed W0 (w.heap.size + 1) 26 (.int .i64 0) := by
    rw [hW0]
    have h := Boxed.new (w.alloc (.cells #[.slice none 0 0] 36)) 26 (.int .i64 0)
    rw [World.size_alloc] at h
    exact (((h.alloc _).alloc _).alloc _).alloc _
  have b2 : Boxed W0 (w.heap.size + 1 + 1) 36 (.slice none 0 0) := by
    rw [hW0]
    have h := Boxed.new ((w.alloc (.cells #[.slice none 0 0] 36)).alloc (.cells #[.int .i64 0] 26)) 36 (.slice none 0 0)
    rw [World.size_alloc, World.size_alloc] at h
    exact ((h.alloc _).alloc _).alloc _
  have b3 : Boxed W0 (w.heap.size + 1 + 1 + 1) 9 (.string s) := by
    rw [hW0]
    have h := Boxed.new (((w.alloc (.cells #[.slice none 0 0] 36)).alloc (.cells #[.int .i64 0] 26)).alloc (.cells #[.slice none 0 0] 36)) 9 (.string s)
    rw [World.size_alloc, World.size_alloc, World.size_alloc] at h
    exact (h.alloc _).alloc _
  have b4 : Boxed W0 (w.heap.size + 1 + 1 + 1 + 1) 9 (.string ⟨#[44]⟩) := by
    rw [hW0]
    have h := Boxed.new ((((w.alloc (.cells #[.slice none 0 0] 36)).alloc (.cells #[.int .i64 0] 26)).alloc (.cells #[.slice none 0 0] 36)).alloc (.cells #[.string s] 9)) 9 (.string ⟨#[44]⟩)
    rw [World.size_alloc, World.size_alloc, World.size_alloc, World.size_alloc] at h
    exact h.alloc _
  have b5 : Boxed W0 (w.heap.size + 1 + 1 + 1 + 1 + 1) 3 (.int .i64 0) := by
    rw [hW0]
    have h := Boxed.new (((((w.alloc (.cells #[.slice none 0 0] 36)).alloc (.cells #[.int .i64 0] 26)).alloc (.cells #[.slice none 0 0] 36)).alloc (.cells #[.string s] 9)).alloc (.cells #[.string ⟨#[44]⟩] 9)) 3 (.int .i64 0)
    rw [World.size_alloc, World.size_alloc, World.size_alloc, World.size_alloc, World.size_alloc] at h
    exact h
  have hB0 : Below w.heap.size w W0 := by rw [hW0]; exact below_alloc (below_alloc (below_alloc (below_alloc (below_alloc (below_alloc (Below.refl _ _) _) _) _) _) _) _
  have hs0 : W0.heap.size = w.heap.size + 6 := by rw [hW0]; simp
  rw [← hW0]
  clear hW0
  refine wp_rangeL (by omega) (gf := 92) (lb := #[.pointer (some ⟨w.heap.size + 1 + 1 + 1 + 1, 0, none⟩), .pointer (some ⟨w.heap.size + 1 + 1 + 1, 0, none⟩), .pointer (some ⟨w.heap.size + 1 + 1 + 1 + 1 + 1, 0, none⟩)]) rfl (enters_of Tryd.func92 (by kernel_rfl) rfl)
    (HSq.out W0 b3 b4 b5) ?hAb (fun h k => h.trans k) (fun W i o o' hi ho _ _ => ⟨by simp, fun j hj hlt => World.putObj_heap_other (by rcases hj with rfl | rfl | rfl <;> omega)⟩) ?hps
    (UnitI w L) (UnitX w L) (unitI_own w L _ (by omega)) (fun c => unitX_own w L c _ (by omega)) (unitI_abs w L) (unitX_abs w L)
    ⟨⟨⟨_, b2, World.ownsRow_nil _ _ _ _, by simp⟩, b0, b1⟩, ⟨⟨_, b3⟩, ⟨_, b4⟩, _, b5⟩, hB0⟩
    (fun k => { tmps := #[.string s, undef, .pointer (some ⟨w.heap.size, 0, none⟩), .pointer (some ⟨w.heap.size + 1, 0, none⟩), .pointer (some ⟨w.heap.size + 1 + 1, 0, none⟩), .string (pcAt L k), undef, undef, .string s, .func (.func 92) #[] #[.pointer (some ⟨w.heap.size + 1 + 1 + 1 + 1, 0, none⟩), .pointer (some ⟨w.heap.size + 1 + 1 + 1, 0, none⟩), .pointer (some ⟨w.heap.size + 1 + 1 + 1 + 1 + 1, 0, none⟩)], .string (pcAt L k), undef, undef, undef, undef, undef, undef, undef, undef, undef, undef, undef, undef, undef, undef, undef, undef, undef, undef, undef, undef, undef, undef, undef, undef, undef], defers := [] }) ?assign ?body ?done ?stop
  case hAb =>
    rintro A B i o ⟨u, rfl⟩ ho hoc
    obtain ⟨b, hb⟩ : ∃ b : World, b = A.setCell ⟨w.heap.size + 1 + 1 + 1, 0, none⟩ u := ⟨_, rfl⟩
    rw [← hb]
    have := (KeepsOthers.setCell A ⟨w.heap.size + 1 + 1 + 1, 0, none⟩ u).same i o ho hoc
    rw [← hb] at this
    exact this
  case hps =>
    intro x hx
    obtain ⟨p, _, rfl⟩ := List.mem_map.1 hx
    rfl
  case assign =>
    intro l' k hk W K hK
    have hk' : k < L.length := by simpa using hk
    have e : (L.map pieceV)[k] = #[.string (pcAt L k)] := by
      rw [List.getElem_map, pcAt, List.getD_eq_getElem?_getD, List.getElem?_eq_getElem hk']
      rfl
    rw [e]
    gi_wp2
    exact hK
  case body =>
    rintro l' k W hk0 ⟨⟨⟨v, hv, hrow, hok⟩, h1, h2⟩, ⟨⟨t3, h3⟩, ⟨t4, h4⟩, t5, h5⟩, hB⟩
    have hk : k < L.length := by simpa using hk0
    obtain ⟨q, hq⟩ : ∃ q, q = pcAt L k := ⟨_, rfl⟩
    rw [← hq]
    have hqs : q.size ≤ 100000000 := by
      rw [hq, pcAt, bOf_size, List.getD_eq_getElem?_getD, List.getElem?_eq_getElem hk]
      exact HLs.out _ (List.getElem_mem hk)
    have hqL : L[k] = L.getD k [] := by rw [List.getD_eq_getElem?_getD, List.getElem?_eq_getElem hk]; rfl
    have hqe : bOf L[k] = q := by rw [hq, pcAt, hqL]
    obtain ⟨x, hx⟩ : ∃ x, x = (parF q 16).1 := ⟨_, rfl⟩
    obtain ⟨e0, he0⟩ : ∃ e0, e0 = (parF q 16).2 := ⟨_, rfl⟩
    have HP := Aside0.mk (show ∀ X : World, Calls Tryd.prog 54 #[.string q, .int .u32 16] X (fun e w' => e = .returned (.tuple #[.int .u32 x, .int .i64 e0]) ∧ Drawn0 X w') from fun X =>
      digit_Parse.calls 100000050 q 16 x e0 X (by rw [parse_eq _ _ _ (by omega) (by omega), hx, he0]))
    have hne : ¬ okU L[k] = true → ¬ ∀ p ∈ L, okU p = true := fun h h2 => h (h2 _ (List.getElem_mem hk))
    have hokk : okU L[k] = (decide (e0 = 0) && !decide (bt q 0 = 45) && decide (q.size ≤ 8)) := by
      unfold okU
      rw [hqe, ← he0, ← hqe, bOf_size]
    by_cases hz : e0 = 0
    · have hpos : 0 < q.size := parF_pos (by rw [← he0, hz])
      have p1 : (0 < (q.size : Int)) = True := eq_true (by omega)
      have hbt := bt_idx q hpos
      subst hz
      by_cases h45 : bt q 0 = 45
      · have hX := hne (by rw [hokk, h45]; simp)
        have d2 : (((q[0]'hpos).toNat : Int) == 45) = true := by rw [hbt, h45]; rfl
        have HX := Aside0.mk hX
        clear hx he0 hokk hne hqe hqL hqs hq hk hs0 hok hX hbt
        have hc1 := h1.cell
        have hf1 := h1.frozen
        have hc2 := h2.cell
        have hf2 := h2.frozen
        gi_wp2_with (refine ⟨trivial, ?_⟩; gi_at_call 54; refine (CallsIn.inRound l' (callsIn_wide.2 (HP.out _))).mono ?_; rintro e w' ⟨rfl, hd⟩; obtain ⟨⟨nn, rfl⟩⟩ := hd)
        exact unit_out w L _ _ nn W _ h1 h2 hB HX.out
      · have d2 : (((q[0]'hpos).toNat : Int) == 45) = false := by rw [hbt]; exact beq_false_of_ne h45
        by_cases h8 : q.size ≤ 8
        · have d3 : decide ((8 : Int) < (q.size : Int)) = false := decide_eq_false (by omega)
          have hokt : okU L[k] = true := by rw [hokk]; simp [h45, h8]
          have HTk := Aside0.mk (show (L.map valU).take (k + 1) = (L.map valU).take k ++ [x] by
            rw [List.take_succ_eq_append_getElem (by rw [List.length_map]; exact hk), List.getElem_map]
            congr 2
            unfold valU
            rw [hqe, hx])
          have HOk := Aside0.mk (show ∀ p ∈ L.take (k + 1), okU p = true by
            intro p hp
            rw [List.take_succ_eq_append_getElem hk] at hp
            rcases List.mem_append.1 hp with hp | hp
            · exact hok p hp
            · rw [List.mem_singleton.1 hp]; exact hokt)
          have HK := Aside0.mk (show k ≤ 100000001 from Nat.le_trans (Nat.le_of_lt hk) HLl.out)
          have HTl := Aside0.mk (show (((L.map valU).take k).map (Value.int .u32)).length = k by rw [List.length_map, List.length_take, List.length_map]; omega)
          clear hx he0 hokk hne hqe hqL hqs hq hk hs0 hok hbt h45 h8 hokt
          gi_wp2_with (first
            | (refine ⟨trivial, ?_⟩; gi_at_call 54; refine (CallsIn.inRound l' (callsIn_wide.2 (HP.out _))).mono ?_; rintro e w' ⟨rfl, hd⟩; obtain ⟨⟨nn, rfl⟩⟩ := hd; have hvX : Boxed (W.drewN nn) (w.heap.size + 1 + 1) 36 v := hv; have hrowX : (W.drewN nn).ownsRow w.heap.size 24 1 v k (((L.map valU).take k).map (Value.int .u32)) := hrow; have hBX : Below w.heap.size w (W.drewN nn) := pw_below_drewN hB nn; obtain ⟨X, hX⟩ : ∃ X, X = W.drewN nn := ⟨_, rfl⟩; have HXW := Aside0.mk hX; rw [← hX] at hvX hrowX hBX ⊢; clear hX; have hcX := hvX.cell; clear hv hrow hB)
            | (gi_at_builtin; refine wpListIn_append_own _ rfl _ _ 36 rfl w.heap.size 24 i0 (.int .u32 0) 1 4 Tryd.underlying36 hi hz0 hz1 hz2 rfl (by decide) _ _ _ rfl (hrowX.alloc _) ⟨X.heap.size, 0, none⟩ 1 1 [.int .u32 x] rfl rfl (cell_one_new _ _ _) (by simp [Value.oneCell']) (by have := HK.out; unfold maxLen; omega) (by have := HK.out; omega) (by have := hBX.size; simp; omega) ?_; intro v' w1 hown' hgrow _; obtain ⟨g', cap', rfl⟩ := ownsRow_succ hown'; obtain ⟨hv1, hv2, hr2, hk2, hb2⟩ := hvX.appended (by decide) hrowX hBX.size (by omega) hown' hgrow; have hc1 := hv1.cell; have hf1 := hv1.frozen))
          have hXW := HXW.out
          subst hXW
          have k1 : KeepsOthers W (W.drewN nn) := ⟨Nat.le_refl _, fun _ _ h _ => h⟩
          have hkk := k1.trans hk2
          have hBk := hBX.trans hb2
          have box : ∀ {B : Nat} {t : TypeId} {u : Value}, Boxed W B t u → 24 ≠ t → w.heap.size + 1 + 1 ≠ B → Boxed (w1.setCell ⟨w.heap.size + 1 + 1, 0, none⟩ (.slice (some ⟨g', 0, none⟩) (k + 1) cap')) B t u := fun {B t u} h ht hB2 => by
            have h' : Boxed (W.drewN nn) B t u := h
            exact ((h'.alloc _).kept hgrow (h'.not_row (fun e => ht e.symm) hrowX)).other (fun e => hB2 e.symm) _
          have f3 := box h3 (by decide) (by omega)
          have f4 := box h4 (by decide) (by omega)
          have f5 := box h5 (by decide) (by omega)
          refine ⟨hkk, ⟨hkk.size, fun i hi hl => ?_⟩, ⟨⟨_, hv2, ?_, HOk.out⟩, box h1 (by decide) (by omega), box h2 (by decide) (by omega)⟩, ⟨⟨t3, f3⟩, ⟨t4, f4⟩, t5, f5⟩, hBk⟩
          · rcases hi with rfl | rfl | rfl
            · exact (show _ = _ from f3).trans (show _ = _ from h3).symm
            · exact (show _ = _ from f4).trans (show _ = _ from h4).symm
            · exact (show _ = _ from f5).trans (show _ = _ from h5).symm
          · rw [HTk.out, List.map_append]
            exact hr2
        · have hX := hne (by rw [hokk]; simp [h8])
          have d3 : decide ((8 : Int) < (q.size : Int)) = true := decide_eq_true (by omega)
          have HX := Aside0.mk hX
          clear hx he0 hokk hne hqe hqL hqs hq hk hs0 hok hX hbt h45 h8
          have hc1 := h1.cell
          have hf1 := h1.frozen
          have hc2 := h2.cell
          have hf2 := h2.frozen
          gi_wp2_with (refine ⟨trivial, ?_⟩; gi_at_call 54; refine (CallsIn.inRound l' (callsIn_wide.2 (HP.out _))).mono ?_; rintro e w' ⟨rfl, hd⟩; obtain ⟨⟨nn, rfl⟩⟩ := hd)
          exact unit_out w L _ _ nn W _ h1 h2 hB HX.out
    · have hX := hne (by rw [hokk]; simp [hz])
      have d1 : (e0 != 0) = true := by simp [hz]
      have HX := Aside0.mk hX
      clear hx he0 hokk hne hqe hqL hqs hq hk hs0 hok hX hz
      have hc1 := h1.cell
      have hf1 := h1.frozen
      have hc2 := h2.cell
      have hf2 := h2.frozen
      gi_wp2_with (refine ⟨trivial, ?_⟩; gi_at_call 54; refine (CallsIn.inRound l' (callsIn_wide.2 (HP.out _))).mono ?_; rintro e w' ⟨rfl, hd⟩; obtain ⟨⟨nn, rfl⟩⟩ := hd)
      exact unit_out w L _ _ nn W _ h1 h2 hB HX.out
  case done =>
    rintro D W hD ⟨⟨⟨v, hv, hrow, hok⟩, h1, h2⟩, _, hB⟩ hK
    have hLn : (L.map pieceV).length = L.length := List.length_map _
    rw [hLn] at hrow hok
    rw [List.take_of_length_le (by rw [List.length_map]; exact Nat.le_refl _)] at hrow
    rw [List.take_of_length_le (Nat.le_refl _)] at hok
    have hRx : Kd.R (Kd.int .u32) 24 W w.heap.size (fun _ => True) v (L.map valU) := Kd.R_of_own (xs := L.map valU) (by rw [List.length_map]; exact hrow) (fun _ _ => trivial)
    obtain ⟨A, c, rfl⟩ := Kd.R_slice hRx
    have hc := hv.cell
    have hc1 := h1.cell
    have hf1 := h1.frozen
    have hc2 := h2.cell
    have hf2 := h2.frozen
    have hall : L.all okU = true := List.all_eq_true.2 hok
    have hLm : (L.map valU).length = L.length := List.length_map _
    rw [hLm] at hv hc hRx
    have hR := HR.out
    rw [if_pos hall] at hR
    clear hok hall
    by_cases h4 : 4 < L.length
    · rw [if_pos h4] at hR
      subst hR
      have d4 : decide ((4 : Int) < (L.length : Int)) = true := decide_eq_true (by omega)
      gi_wp2
      exact unit_end w _ D (by omega) _ (.slice none 0 0) 3 [] rfl rfl (((KeepsOthers.setCell _ _ _).trans (KeepsOthers.setCell _ _ _)).same D _ hK rfl) ((h1.set _).other (by omega) _) ((h2.other (by omega) _).set _) (World.ownsRow_nil _ _ _ _) (below_set (below_set hB (Nat.le_refl _)) (by omega))
    · rw [if_neg h4] at hR
      subst hR
      have d4 : decide ((4 : Int) < (L.length : Int)) = false := decide_eq_false (by omega)
      have hne1 := h1.not_row (by decide) hrow
      have hne2 := h2.not_row (by decide) hrow
      rw [hLm] at hne1 hne2
      gi_wp2
      have e : (L.map valU).length = L.length := hLm
      refine unit_end w _ D (by omega) _ (.slice A L.length c) 0 (L.map valU) rfl rfl (((KeepsOthers.setCell _ _ _).trans (KeepsOthers.setCell _ _ _)).same D _ hK rfl) ((h1.set _).other (by omega) _) ((h2.other (by omega) _).set _) ?_ (below_set (below_set hB (Nat.le_refl _)) (by omega))
      rw [hLm] at hrow ⊢
      exact (hrow.kept (grownBy_setCell' _ _ _) (.inr hne1.symm)).kept (grownBy_setCell' _ _ _) (.inr hne2.symm)
  case stop =>
    rintro D c k W hD hkk ⟨⟨rfl, hX⟩, h1, h2, hB⟩ hK
    have hR := HR.out
    rw [if_neg (fun h => hX (List.all_eq_true.1 h))] at hR
    subst hR
    have hc1 := h1.cell
    have hc2 := h2.cell
    gi_wp2
    exact unit_end w _ D (by omega) _ (.slice none 0 0) 15 [] rfl rfl hK h1 h2 (World.ownsRow_nil _ _ _ _) hB
def prop_ParseUnit.f (s : ByteArray) : Option (List Int × Int) := if s.size ≤ 100000000 then some (unitF s) else none
theorem prop_ParseUnit.calls (a0 : ByteArray) (r1 : List Int) (r2 : Int) (w : World) (h : prop_ParseUnit.f a0 = some (r1, r2)) :
    Calls Tryd.prog 35 #[.string a0] w fun e w' => ∃ v0_ : Value, e = .returned (.tuple #[v0_, .int .i64 r2]) ∧ Kd.R (Kd.int .u32) 24 w' w.heap.size (fun _ => True) v0_ r1 ∧ Below w.heap.size w w' := by
  unfold prop_ParseUnit.f at h
  split at h
  · rename_i hs
    have e := Option.some.inj h
    have h2 := unit_calls a0 w hs
    rw [e] at h2
    exact h2
  · cases h
end Go.Proofs.YtlhnaplmphdhlaaDoor.Q
