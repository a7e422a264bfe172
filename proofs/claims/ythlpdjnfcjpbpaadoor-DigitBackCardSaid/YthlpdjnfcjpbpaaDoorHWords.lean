/- Contracts and plain facts for the functions of layer 20: what each answers, wherever its plain function has an answer. -/
import Derived.Test.YthlpdjnfcjpbpaaDoorQ0
import Derived.WalkSpells
import Derived.Laws.CopyOwn
namespace Go.Proofs.YthlpdjnfcjpbpaaDoor.Q
open Go.RowKit Go.Proofs.YthlpdjnfcjpbpaaDoorW.PrintWords Go.Proofs.YthlpdjnfcjpbpaaDoorW.PrintLast Go.Proofs.YthlpdjnfcjpbpaaDoorW.PrintMore
/-- A literal without elements is a row of the call's own. -/
theorem R_empty {α : Type} (d : Kd α) (e : Nat) (W : World) (base : Nat) (hb : base ≤ W.heap.size) : d.R e (W.alloc (.cells #[] e)) base (fun _ => True) (.slice (some ⟨W.heap.size, 0, none⟩) 0 0) [] :=
  ⟨fun _ _ => trivial, [], by have h := World.ownsRow_lit (base := base) (e := e) (size := d.sz) W #[] 0 hb (Nat.zero_le _) (by simp); simpa using h, Reps.none _ _⟩
theorem C_nil_eq {α : Type} {d : Kd α} {w : World} {n : Nat} {xs : List α} (h : d.C w none n xs) : xs = [] := by
  rcases Nat.eq_zero_or_pos n with h0 | h0
  · exact List.eq_nil_of_length_eq_zero (h.1.trans h0)
  · obtain ⟨ad, he, _⟩ := h.2.2 h0
    cases he
theorem cell_set3 {w : World} {g : Nat} {u : Value} (a b c : Value) (h : w.cell? ⟨g, 2, none⟩ = some u) : (((w.setCell ⟨g, 0, none⟩ a).setCell ⟨g, 1, none⟩ b).setCell ⟨g, 2, none⟩ c).cell? ⟨g, 2, none⟩ = some c := by
  have h1 : (w.setCell ⟨g, 0, none⟩ a).cell? ⟨g, 2, none⟩ = some u := by rw [World.cell?_setCell_other _ _ _ _ (by simp)]; exact h
  have h2 : ((w.setCell ⟨g, 0, none⟩ a).setCell ⟨g, 1, none⟩ b).cell? ⟨g, 2, none⟩ = some u := by rw [World.cell?_setCell_other _ _ _ _ (by simp)]; exact h1
  exact World.cell?_setCell_same _ _ _ h2
theorem Addr_add_zero (a : Addr) : a.add 0 = a := by
  cases a with | mk b o s => unfold Addr.add; split <;> simp_all
/-- Where a cut from 'lo' on begins. -/
def cutAt (A : Option Addr) (cap lo sz : Nat) : Option Addr := if cap = lo then A else A.map (·.add (lo * sz))
theorem cutAt_own {g cap lo sz : Nat} (h : lo < cap) : cutAt (some ⟨g, 0, none⟩) cap lo sz = some ⟨g, lo * sz, none⟩ := by
  unfold cutAt
  rw [if_neg (by omega)]
  simp [add_plain]
theorem sliced_eq (A : Option Addr) (lo hi cap s : Nat) : sliced A lo hi cap s = .slice (cutAt A cap lo s) (hi - lo) (cap - lo) := by
  simp [sliced, cutAt]
section
variable {P : Program} {t e : TypeId} {sz : Nat}
theorem run_size (hi : (P.info? e).map (·.size) = some sz) (W : World) : (sizeOf e).run P W = .ok sz W := by
  obtain ⟨i, h1, h2⟩ := Option.map_eq_some_iff.1 hi
  subst h2
  rw [run_sizeOf W h1]; simp [Program.cellsOf, h1]
theorem run_cut_lo (ht : P.underlying t = some (.slice e)) (hi : (P.info? e).map (·.size) = some sz) (A : Option Addr) (n c : Nat) (j : Int) (h0 : 0 ≤ j) (hm : j ≤ n) (W : World) :
    (Instr.slice t (.slice A n c) (some (.int .i64 j)) none none).run P W = .ok (.slice (cutAt A c j.toNat sz) (n - j.toNat) (c - j.toNat)) W := by
  have hel : P.elem t = e := by simp [Program.elem, ht]
  rw [run_slice_l W t A n c (by rw [hel]; exact ht) .i64 j h0 hm, hel, run_size hi]
  simp [Result.andThen, sliced_eq]
theorem run_cut_hi (ht : P.underlying t = some (.slice e)) (hi : (P.info? e).map (·.size) = some sz) (A : Option Addr) (n c : Nat) (j : Int) (h0 : 0 ≤ j) (hm : j ≤ c) (W : World) :
    (Instr.slice t (.slice A n c) none (some (.int .i64 j)) none).run P W = .ok (.slice A j.toNat c) W := by
  have hel : P.elem t = e := by simp [Program.elem, ht]
  rw [run_slice_h W t A n c (by rw [hel]; exact ht) .i64 j h0 hm, hel, run_size hi]
  simp [Result.andThen, sliced_eq, cutAt]
  intro _
  cases A <;> simp [Addr_add_zero]
theorem run_cut_lohi (ht : P.underlying t = some (.slice e)) (hi : (P.info? e).map (·.size) = some sz) (A : Option Addr) (n c : Nat) (j k : Int) (h0 : 0 ≤ j) (h1 : j ≤ k) (hm : k ≤ c) (W : World) :
    (Instr.slice t (.slice A n c) (some (.int .i64 j)) (some (.int .i64 k)) none).run P W = .ok (.slice (cutAt A c j.toNat sz) (k.toNat - j.toNat) (c - j.toNat)) W := by
  have hel : P.elem t = e := by simp [Program.elem, ht]
  rw [run_slice_lh W t A n c (by rw [hel]; exact ht) .i64 .i64 j k h0 h1 hm, hel, run_size hi]
  simp [Result.andThen, sliced_eq]
end
theorem C_cut {α : Type} {d : Kd α} {w : World} {A : Option Addr} {n c : Nat} {xs : List α} (h : d.C w A n xs) (hc : n ≤ c) (lo m : Nat) (hm : lo + m ≤ n) : d.C w (cutAt A c lo d.sz) m ((xs.drop lo).take m) := by
  have hl : xs.length = n := h.1
  refine ⟨by simp [hl]; omega, by have := h.2.1; omega, fun hp => ?_⟩
  obtain ⟨ad, rfl, hcell⟩ := h.2.2 (by omega)
  refine ⟨ad.add (lo * d.sz), by unfold cutAt; rw [if_neg (by omega)]; rfl, fun j p hj => ?_⟩
  have hjm : j < m := by
    have := (List.getElem?_eq_some_iff.1 hj).1
    simp at this; omega
  have hj' : xs[lo + j]? = some p := by
    rw [List.getElem?_take, if_pos hjm, List.getElem?_drop] at hj
    exact hj
  obtain ⟨cs, h1, h2, h3⟩ := hcell (lo + j) p hj'
  refine ⟨cs, h1, h2, fun i u hu => ?_⟩
  have := h3 i u hu
  rw [show (lo + j) * d.sz + i = lo * d.sz + (j * d.sz + i) by rw [Nat.add_mul]; omega] at this
  rw [add_add]
  exact this
theorem reps_scalar {α : Type} {enc : α → Value} {R : α → List Value → Prop} (hR : ∀ x c, R x c → c = [enc x]) {xs : List α} {inner : List Value} (h : Reps R 1 xs inner) : inner = xs.map enc := by
  have hl : inner.length = xs.length := by have := h.1; omega
  apply List.ext_getElem
  · rw [hl, List.length_map]
  · intro i h1 h2
    have h3 : i < xs.length := by omega
    have := hR _ _ (h.2 i _ (List.getElem?_eq_getElem h3))
    have h4 : ((inner.drop (i * 1)).take 1)[0]? = some (enc xs[i]) := by rw [this]; rfl
    rw [List.getElem?_take, if_pos (by omega), List.getElem?_drop, Nat.mul_one, Nat.add_zero, List.getElem?_eq_getElem h1] at h4
    rw [List.getElem_map]
    exact Option.some.inj h4
theorem reps_scalar_mk {α : Type} {enc : α → Value} {R : α → List Value → Prop} (hR : ∀ x, R x [enc x]) (xs : List α) : Reps R 1 xs (xs.map enc) := by
  refine ⟨by simp, fun j p hj => ?_⟩
  obtain ⟨hjl, rfl⟩ := List.getElem?_eq_some_iff.1 hj
  have : ((xs.map enc).drop (j * 1)).take 1 = [enc xs[j]] := by
    rw [Nat.mul_one, List.drop_eq_getElem_cons (by simpa using hjl)]
    simp
  rw [this]
  exact hR _
/-! copy -/
section
variable {P : Program} {ops : Array Oper} {rest : List Oper} {o : Oper} {a : Act} {Q : Exit → Act → World → Prop}
theorem setRow_grown (W : World) (g : Nat) (cs : Array Value) : W.grownBy (W.setRow g cs) (some g) :=
  ⟨rfl, rfl, rfl, by simp [World.setRow], fun k hk hne => setRow_other W g k cs (fun e => hne (by rw [e]))⟩
theorem copy_run {P : Program} {α : Type} (enc : α → Value) (h1 : ∀ x, (enc x).oneCell' = true) {W : World} (base : Nat) (dT sT e ty : TypeId) (hu : P.underlying dT = some (.slice e)) (hsz : (P.info? e).map (·.size) = some 1)
    (g n cap off dLen dCap sLen sCap : Nat) (dp sp : Option Addr) (xs ys : List α) (ok : Nat → Prop)
    (HO : (Kd.scalar enc h1).R e W base ok (.slice (some ⟨g, 0, none⟩) n cap) xs) (hdp : 0 < dLen → dp = some ⟨g, off, none⟩) (hoff : off + dLen ≤ n)
    (HR : (Kd.scalar enc h1).C W sp sLen ys) :
    ∃ w1, (Builtin.copy_ #[dT, sT] ty #[.slice dp dLen dCap, .slice sp sLen sCap]).run P W = .ok (goInt (ys.take dLen).length) w1 ∧ (Kd.scalar enc h1).R e w1 base ok (.slice (some ⟨g, 0, none⟩) n cap) (splice xs off (ys.take dLen)) ∧ W.grownBy w1 (some g) ∧ base ≤ g := by
  obtain ⟨hok, inner, hown, hr⟩ := HO
  have hinner : inner = xs.map enc := reps_scalar (fun _ _ h => h) hr
  subst hinner
  have hn : xs.length = n := by
    rcases hown.2 with ⟨h', _⟩ | ⟨_, _, _, h', _⟩
    · cases h'
    · injection h' with _ h2 _
      exact h2.symm
  rcases hown.2 with ⟨h', _⟩ | ⟨g', cap', cur, h', hb, hg, hnc, hcm, hcs, htake⟩
  · cases h'
  simp only [Value.slice.injEq, Option.some.injEq, Addr.mk.injEq, and_true] at h'
  obtain ⟨rfl, -, rfl⟩ := h'
  have hy : ys.length = sLen := HR.1
  by_cases h0 : (ys.take dLen).length = 0
  · have e0 : ys.take dLen = [] := List.eq_nil_of_length_eq_zero h0
    have hrun := run_copy_none (P := P) W dT sT ty e dp sp dLen dCap sLen sCap hu hsz (by rw [List.length_take] at h0; simp only [Nat.min_def] at h0 ⊢; split at h0 <;> split <;> omega)
    refine ⟨W, ?_, ⟨hok, xs.map enc, by rw [e0]; simpa [splice, hn] using hown, by rw [e0]; simpa [splice] using hr⟩, ⟨rfl, rfl, rfl, Nat.le_refl _, fun _ _ _ => rfl⟩, hb⟩
    rw [e0]
    exact hrun
  · rw [List.length_take] at h0
    obtain rfl := hdp (by omega)
    obtain ⟨ad, rfl, hcell⟩ := HR.2.2 (by omega)
    have hcl : ((ys.take dLen).map enc).length = Nat.min sLen dLen := by rw [List.length_map, List.length_take, hy, Nat.min_comm]
    have hm : Nat.min sLen dLen ≤ dLen := Nat.min_le_right _ _
    have hcur : cur.size = cap := hcs.trans (Nat.mul_one _)
    have hrun := run_copy_row (P := P) W dT sT ty e g off dLen dCap ad sLen sCap cur e ((ys.take dLen).map enc) hu hsz hg hcl ?_ (by rw [hcl]; omega) (fun v hv => by obtain ⟨x, _, rfl⟩ := List.mem_map.1 hv; exact h1 x)
    rotate_left
    · intro j v hj
      rw [List.getElem?_map] at hj
      obtain ⟨x, hx, rfl⟩ := Option.map_eq_some_iff.1 hj
      rw [List.getElem?_take] at hx
      split at hx
      · obtain ⟨c, hc1, hc2, hc3⟩ := hcell j x hx
        have hc2 : c = [enc x] := hc2
        have := hc3 0 (enc x) (by rw [hc2]; rfl)
        simpa [Kd.scalar] using this
      · cases hx
    · have hsp : (splice (xs.map enc) off ((ys.take dLen).map enc)) = (splice xs off (ys.take dLen)).map enc := by simp [splice]
      have hcl' : (ys.take dLen).length ≤ dLen := List.length_take_le _ _
      have hlen : (splice xs off (ys.take dLen)).length = n := by rw [length_splice _ _ _ (by omega)]; exact hn
      refine ⟨W.setRow g (cur.toList.take off ++ ((ys.take dLen).map enc ++ cur.toList.drop (off + ((ys.take dLen).map enc).length))).toArray, by rw [List.append_assoc, List.length_map] at hrun; rw [List.length_map]; exact hrun, ?_, setRow_grown _ _ _, hb⟩
      · refine ⟨hok, (splice xs off (ys.take dLen)).map enc, ⟨by rw [List.length_map]; show _ = _ * 1; omega, .inr ⟨g, cap, _, by rw [hlen], hb, setRow_heap _ _ _ _ _ _ hg, by omega, hcm, ?_, ?_⟩⟩, (show Reps (fun x cs => cs = [enc x]) 1 _ _ from reps_scalar_mk (R := fun x cs => cs = [enc x]) (fun _ => rfl) _)⟩
        · simp only [List.size_toArray, List.length_append, List.length_take, List.length_drop, List.length_map, Array.length_toList]
          show _ = cap * 1
          omega
        · rw [hlen, ← hsp]
          show List.take (n * 1) _ = _
          rw [Nat.mul_one, ← htake]
          have e1 : (xs.length * (Kd.scalar enc h1).sz) = n := by show xs.length * 1 = n; omega
          rw [e1]
          have hco : off ≤ cur.toList.length := by rw [Array.length_toList]; omega
          have hl1 : (cur.toList.take off).length = off := by rw [List.length_take]; omega
          rw [List.toList_toArray, splice, List.take_append, List.take_append, hl1, List.take_take, List.take_take, Nat.min_comm n off, List.take_of_length_le (l := (ys.take dLen).map enc) (by rw [List.length_map]; omega), List.drop_take, List.length_map]
          congr 3
          omega
theorem copy_row {α : Type} (enc : α → Value) (h1 : ∀ x, (enc x).oneCell' = true) {w0 W : World} (base : Nat) (hgd : o.guard = none) (d s : Operand) (dT sT e : TypeId)
    (ho : o.op = .call { callee := .builtin .copy, args := #[d, s], argTypes := #[dT, sT] }) (hu : P.underlying dT = some (.slice e)) (hsz : (P.info? e).map (·.size) = some 1)
    (g n cap off dLen dCap sLen sCap : Nat) (dp sp : Option Addr) (xs ys : List α) (ok : Nat → Prop) (hd : a.eval d = .slice dp dLen dCap) (hs : a.eval s = .slice sp sLen sCap)
    (HO : (Kd.scalar enc h1).R e W base ok (.slice (some ⟨g, 0, none⟩) n cap) xs) (hdp : 0 < dLen → dp = some ⟨g, off, none⟩) (hoff : off + dLen ≤ n)
    (HR : (Kd.scalar enc h1).C W sp sLen ys) (HB : Below base w0 W)
    (h : ∀ w1, (Kd.scalar enc h1).R e w1 base ok (.slice (some ⟨g, 0, none⟩) n cap) (splice xs off (ys.take dLen)) → Below base w0 w1 → W.grownBy w1 (some g) → wpList P ops Q rest (a.put o.dst (goInt (ys.take dLen).length)) w1) :
    wpList P ops Q (o :: rest) a W := by
  obtain ⟨w1, hrun, hR, hg, hb⟩ := copy_run (P := P) enc h1 base dT sT e o.type hu hsz g n cap off dLen dCap sLen sCap dp sp xs ys ok HO hdp hoff HR
  generalize (ys.take dLen).length = m at hrun h
  refine wpList_plain hgd fun K hK => ?_
  unfold Oper.wp
  simp [execOp, ho, resolve, invoke, builtin, hd, hs, hrun, Result.andThen]
  exact hK _ _ (h w1 hR (HB.trans ⟨hg.os, hg.tape, hg.output, hg.size, fun k hk => by
    by_cases hk2 : k < W.heap.size
    · exact hg.block k hk2 (fun e => by injection e with e; omega)
    · have := hg.size
      have h3 := Kd.R_lt HO g rfl
      omega⟩) hg)
theorem copy_row_step {α : Type} {Kc : Act → World → Prop} (enc : α → Value) (h1 : ∀ x, (enc x).oneCell' = true) {w0 W : World} (base : Nat) (hgd : Region.wanted o (yielded ops a.tmps) = true) {N : Option Tmp} (hN : o.dst = N) (d s : Operand) (dT sT e : TypeId)
    (ho : o.op = .call { callee := .builtin .copy, args := #[d, s], argTypes := #[dT, sT] }) (hu : P.underlying dT = some (.slice e)) (hsz : (P.info? e).map (·.size) = some 1)
    (g n cap off dLen dCap sLen sCap : Nat) (dp sp : Option Addr) (xs ys : List α) (ok : Nat → Prop) (hd : a.eval d = .slice dp dLen dCap) (hs : a.eval s = .slice sp sLen sCap)
    (HO : (Kd.scalar enc h1).R e W base ok (.slice (some ⟨g, 0, none⟩) n cap) xs) (hdp : 0 < dLen → dp = some ⟨g, off, none⟩) (hoff : off + dLen ≤ n)
    (HR : (Kd.scalar enc h1).C W sp sLen ys) (HB : Below base w0 W)
    (h : ∀ w1, (Kd.scalar enc h1).R e w1 base ok (.slice (some ⟨g, 0, none⟩) n cap) (splice xs off (ys.take dLen)) → Below base w0 w1 → W.grownBy w1 (some g) → Kc (a.put N (goInt (ys.take dLen).length)) w1) :
    if Region.wanted o (yielded ops a.tmps) = true then Oper.wp P o a W Kc Q else Kc (a.put N undef) W := by
  obtain ⟨w1, hrun, hR, hg, hb⟩ := copy_run (P := P) enc h1 base dT sT e o.type hu hsz g n cap off dLen dCap sLen sCap dp sp xs ys ok HO hdp hoff HR
  generalize (ys.take dLen).length = m at hrun h
  rw [if_pos hgd]
  subst hN
  unfold Oper.wp
  have hx : (execOp a.eval o).run P W = .ok (.value (goInt m)) w1 := by simp [execOp, ho, resolve, invoke, builtin, hd, hs, hrun, Result.andThen]
  rw [hx]
  exact (h w1 hR (HB.trans ⟨hg.os, hg.tape, hg.output, hg.size, fun k hk => by
    by_cases hk2 : k < W.heap.size
    · exact hg.block k hk2 (fun e => by injection e with e; omega)
    · have := hg.size
      have h3 := Kd.R_lt HO g rfl
      omega⟩) hg)
end
/-- make([]T, 0, n): no element yet. -/
theorem R_make0 {α : Type} {P : Program} {ops : Array Oper} {rest : List Oper} {o : Oper} {a : Act} {Q : Exit → Act → World → Prop} (d : Kd α) {w0 W : World} (base e : Nat) (hgd : o.guard = none) {N : Tmp} (_hd : o.dst = some N) (t : TypeId) (x y : Operand) (ho : o.op = .makeSlice t x y) (n : Int)
    (hx : a.eval x = .int .i64 0) (hy : a.eval y = .int .i64 n) (ht : P.underlying t = some (.slice e)) (z : Value) (bytes : Nat) (hinfo : (P.info? e).map (fun i => (i.zero, i.size, i.bytes)) = some (some z, d.sz, bytes)) (hb0 : 0 < bytes)
    {ok : Nat → Prop} (hfresh : ok W.heap.size) (h0 : 0 ≤ n) (hl : n.toNat * bytes ≤ 281474976710656) (HB : Below base w0 W) (hbase : base ≤ W.heap.size)
    (h : ∀ v1 w1, d.R e w1 base ok v1 [] → Below base w0 w1 → W.grownBy w1 none → (∃ b, v1.ownBlock = some b ∧ W.heap.size ≤ b) → wpList P ops Q rest (a.put o.dst v1) w1) : wpList P ops Q (o :: rest) a W := by
  obtain ⟨m, rfl⟩ := Int.eq_ofNat_of_zero_le h0
  simp only [Int.toNat_natCast] at hl
  obtain ⟨i0, hi, hzz⟩ := Option.map_eq_some_iff.1 hinfo
  simp only [Prod.mk.injEq] at hzz
  obtain ⟨hz0, hz1, hz2⟩ := hzz
  have hm : m ≤ 281474976710656 := Nat.le_trans (Nat.le_mul_of_pos_right _ hb0) hl
  have hr := run_make (P := P) W t e i0 z ht hi hz0 .i64 .i64 0 (m : Int) (by omega) (by omega)
    (by
      have h3 : ((i0.bytes * m : Nat) : Int) ≤ 281474976710656 := by rw [hz2, Nat.mul_comm]; omega
      rwa [Int.natCast_mul] at h3) (by omega)
  simp only [Int.toNat_natCast, Int.toNat_zero] at hr
  rw [hz1] at hr
  refine Kd.event_run hgd (w1 := W.alloc (.cells (madeCells z.cells (m * d.sz)) e)) (v := .slice (some ⟨W.heap.size, 0, none⟩) 0 m) (by simp [execOp, ho, hx, hy, hr]) ?_
  refine h _ _ ⟨fun k hk => ?_, [], ⟨by simp, .inr ⟨W.heap.size, m, madeCells z.cells (m * d.sz), rfl, hbase, heap_alloc_new W _, Nat.zero_le _, by simp only [maxLen]; omega, size_madeCells _ _, by simp⟩⟩, Reps.none _ _⟩ (HB.alloc hbase _) (World.grownBy_alloc W _ none) ⟨W.heap.size, by simp [Value.ownBlock], Nat.le_refl _⟩
  have : W.heap.size = k := by simpa [Value.ownBlock] using hk
  subst this
  exact hfresh
/-! rows whose elements lead nowhere -/
section
variable {α : Type} {d : Kd α} {e base : Nat} {ok : Nat → Prop} {W w1 : World} {v : Value} {xs : List α}
theorem R_flat_grown (hE : d.E = []) (h : d.R e W base ok v xs) {row : Option Nat} (hg : W.grownBy w1 row) (hne : ∀ k, v.ownBlock = some k → some k ≠ row) : d.R e w1 base (fun _ => True) v xs :=
  Kd.R_mono (Kd.R_grown (Kd.R_tight hE h) hg (fun k hk => hne k hk.symm)) (fun _ _ => trivial)
theorem R_flat_set (hE : d.E = []) (h : d.R e W base ok v xs) {p : Addr} {u : Value} (hne : ∀ k, v.ownBlock = some k → k ≠ p.block) : d.R e (W.setCell p u) base (fun _ => True) v xs :=
  Kd.R_mono (Kd.R_far (Kd.R_tight hE h) (fun k hk => hne k hk.symm) u) (fun _ _ => trivial)
theorem R_flat_put (hE : d.E = []) (h : d.R e W base ok v xs) {g j : Nat} {u : Value} (hne : ∀ k, v.ownBlock = some k → k ≠ g) : d.R e (W.setCell ⟨g, j, none⟩ u) base (fun _ => True) v xs := R_flat_set hE h hne
theorem R_any (h : d.R e W base ok v xs) : d.R e W base (fun _ => True) v xs := Kd.R_mono h (fun _ _ => trivial)
end
theorem splice_get {α : Type} (L C : List α) (o j : Nat) (h : o + C.length ≤ L.length) : (splice L o C)[j]? = if j < o then L[j]? else if j < o + C.length then C[j - o]? else L[j]? := by
  unfold splice
  by_cases h1 : j < o
  · rw [if_pos h1, List.getElem?_append_left (by rw [List.length_take]; omega), List.getElem?_take, if_pos h1]
  · rw [if_neg h1, List.getElem?_append_right (by rw [List.length_take]; omega)]
    have e : (L.take o).length = o := by rw [List.length_take]; omega
    rw [e]
    by_cases h2 : j < o + C.length
    · rw [if_pos h2, List.getElem?_append_left (by omega)]
    · rw [if_neg h2, List.getElem?_append_right (by omega), List.getElem?_drop]
      congr 1
      omega
theorem put_step (L B : List Int) (a off n s f : Nat) (h1 : s + f = a + off) (h2 : f + n ≤ 512) (h3 : s + 512 ≤ L.length) (h4 : off + n ≤ B.length) (h5 : a + B.length ≤ L.length) :
    splice (splice L a (B.take off)) s (splice (((splice L a (B.take off)).drop s).take 512) f ((B.drop off).take n)) = splice L a (B.take (off + n)) := by
  have l1 : (B.take off).length = off := by rw [List.length_take]; omega
  have l2 : ((B.drop off).take n).length = n := by rw [List.length_take, List.length_drop]; omega
  have l3 : (splice L a (B.take off)).length = L.length := length_splice _ _ _ (by omega)
  have l4 : (((splice L a (B.take off)).drop s).take 512).length = 512 := by rw [List.length_take, List.length_drop, l3]; omega
  have l5 : (splice (((splice L a (B.take off)).drop s).take 512) f ((B.drop off).take n)).length = 512 := by rw [length_splice _ _ _ (by omega), l4]
  have l6 : (B.take (off + n)).length = off + n := by rw [List.length_take]; omega
  apply List.ext_getElem?
  intro j
  rw [splice_get _ _ _ _ (by omega), splice_get _ _ _ _ (by omega), splice_get _ _ _ _ (by omega), splice_get _ _ _ _ (by omega), l1, l2, l5, l6]
  simp only [List.getElem?_take, List.getElem?_drop]
  by_cases c1 : j < s
  · rw [if_pos c1]
    by_cases c2 : j < a
    · rw [if_pos c2, if_pos c2]
    · rw [if_neg c2, if_neg c2]
      by_cases c3 : j < a + off
      · rw [if_pos c3, if_pos (by omega), if_pos (by omega), if_pos (by omega)]
      · omega
  · rw [if_neg c1]
    by_cases c2 : j < s + 512
    · rw [if_pos c2]
      by_cases c3 : j - s < f
      · rw [if_pos c3, if_pos (by omega), splice_get _ _ _ _ (by omega), l1, show s + (j - s) = j by omega]
        by_cases c4 : j < a
        · rw [if_pos c4, if_pos c4]
        · rw [if_neg c4, if_neg c4, if_pos (by omega), if_pos (by omega), List.getElem?_take, if_pos (by omega), if_pos (by omega)]
      · rw [if_neg c3]
        by_cases c4 : j - s < f + n
        · rw [if_pos c4, if_pos (by omega), if_neg (by omega), if_pos (by omega), if_pos (by omega)]
          congr 1
          omega
        · rw [if_neg c4, if_pos (by omega), splice_get _ _ _ _ (by omega), l1, show s + (j - s) = j by omega, if_neg (by omega), if_neg (by omega), if_neg (by omega), if_neg (by omega)]
    · rw [if_neg c2]
      by_cases c3 : j < a
      · omega
      · rw [if_neg c3, if_neg c3]
        by_cases c4 : j < a + off
        · omega
        · rw [if_neg c4, if_neg (by omega)]
end Go.Proofs.YthlpdjnfcjpbpaaDoor.Q
