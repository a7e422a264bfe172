/- The numbers of bytes, four by four. -/
import Derived.RangeFuncWrites
import Derived.RangeFuncBox
import Derived.Test.YtnbomjfpnpmllaaHChunk
import Derived.Test.YtnbomjfpnpmllaaHRound
namespace Go.Proofs.Ytnbomjfpnpmllaa.Q
open Go.RowKit Go.Shelf Go.Proofs.YtnbomjfpnpmllaaW.PrintWords Go.Proofs.YtnbomjfpnpmllaaW.PrintLast
attribute [local go_sem] Oper.semAt_some
def numF (l : List Int) : Int := Go.bits .or .u32 (Go.bits .or .u32 (Go.bits .or .u32 ((((rd l 0) % 4294967296) * 16777216) % 4294967296) ((((rd l 1) % 4294967296) * 65536) % 4294967296)) ((((rd l 2) % 4294967296) * 256) % 4294967296)) ((rd l 3) % 4294967296)
theorem number_eq (l : List Int) (h : l.length = 4) : prop_number.f l = some (numF l) := by
  unfold prop_number.f
  rw [if_pos (by omega), if_pos (by omega), if_pos (by omega), if_pos (by omega)]
  rfl
def fourAt (l : List Int) (k : Nat) : List Int := (l.drop (4 * k)).take 4
def numsF (l : List Int) (m : Nat) (ks : List Nat) : List Int := ks.map fun k => numF (fourAt l (k % m))
theorem numsF_snoc (l : List Int) (m : Nat) (ks : List Nat) (k : Nat) : numsF l m (ks ++ [k]) = numsF l m ks ++ [numF (fourAt l (k % m))] := by simp [numsF]
theorem numsF_len (l : List Int) (m : Nat) (ks : List Nat) : (numsF l m ks).length = ks.length := by simp [numsF]
theorem info22i : (Try.prog.info? 22).map (fun i => (i.zero, i.size, i.bytes)) = some (some (.int .u32 0), 1, 4) := by kernel_rfl
theorem piece_C {w : World} {ad : Addr} {n c : Nat} {l : List Int} (h : Kd.C (Kd.int .u8) w (some ad) n l) (hc : n ≤ c) (k : Nat) (hk : 4 * k + 4 ≤ n) (hlt : 4 * k < c) : Kd.C (Kd.int .u8) w (some (ad.add (4 * k))) 4 (fourAt l k) := by
  have h2 := C_cut h hc (4 * k) 4 hk
  unfold cutAt at h2
  rw [if_neg (by omega)] at h2
  have e : 4 * k * (Kd.int .u8).sz = 4 * k := Nat.mul_one _
  rw [e] at h2
  exact h2
theorem event_stepN {P : Program} {ops : Array Oper} {o : Oper} {a : Act} {Q : Exit → Act → World → Prop} {Kc : Act → World → Prop} {N : Option Tmp} {W w1 : World} {v : Value} (hw : Region.wanted o (yielded ops a.tmps) = true) (hN : o.dst = N) (hrun : (execOp a.eval o).run P W = .ok (.value v) w1) (h : Kc (a.put N v) w1) :
    if Region.wanted o (yielded ops a.tmps) = true then Oper.wp P o a W Kc Q else Kc (a.put N undef) W := by
  subst hN
  exact event_step hw hrun h
theorem skip_stepN {P : Program} {ops : Array Oper} {o : Oper} {a : Act} {Q : Exit → Act → World → Prop} {Kc : Act → World → Prop} {N : Option Tmp} {W w1 : World} (hw : Region.wanted o (yielded ops a.tmps) = true) (hN : o.dst = N) (hrun : (execOp a.eval o).run P W = .ok .skip w1) (h : Kc (a.put N undef) w1) :
    if Region.wanted o (yielded ops a.tmps) = true then Oper.wp P o a W Kc Q else Kc (a.put N undef) W := by
  subst hN
  rw [if_pos hw]
  unfold Oper.wp
  rw [hrun]
  exact h
set_option maxRecDepth 100000 in
set_option maxHeartbeats 2000000 in
theorem ints_calls (A : Option Addr) (c m : Nat) (l : List Int) (w : World) (hl : l.length = 4 * m) (hr : Kd.C (Kd.int .u8) w A l.length l) (hc : l.length ≤ c) (hm : m ≤ 1000000) :
    Calls Try.prog 29 #[.slice A l.length c] w fun e W' => ∃ v, e = .returned (.tuple #[v, .int .i64 0]) ∧ W'.ownsRow w.heap.size 22 1 v m ((numsF l m (List.range m)).map (Value.int .u32)) ∧ Below w.heap.size w W' := by
  refine (callsIn_wide (n := 5)).1 ?_
  obtain ⟨i0, hi, hz0, hz1, hz2⟩ := info_parts info22i
  obtain ⟨ad, hA⟩ : ∃ ad, 0 < m → A = some ad := by
    cases m with
    | zero => exact ⟨⟨0, 0, none⟩, fun h => by omega⟩
    | succ m =>
      obtain ⟨ad, h, _⟩ := hr.2.2 (by omega)
      exact ⟨ad, fun _ => h⟩
  have d0 : ((l.length : Int) % 4 != 0) = false := by rw [hl]; simp
  have HL := Aside0.mk hl
  clear hl
  refine callsIn_of_wp_marks Try.func29 rfl trivial ?_ rfl
  simp only [Try.ntmps29, List.size_toArray, List.length_cons, List.length_nil, Nat.reduceAdd, Nat.reduceSub, Array.replicate_succ, Array.replicate_zero, List.push_toArray, List.append_toArray, List.nil_append, List.cons_append]
  gi_wp2_with (refine ⟨trivial, ?_⟩; gi_at_call 42; refine (chunk_in _ _ _ _ _).mono ?_; rintro e w' ⟨rfl, rfl⟩)
  have hl := HL.out
  have bO := Boxed.new w 57 (.slice none 0 0)
  obtain ⟨W0, hW0⟩ : ∃ W0, W0 = ((w.alloc (.cells #[.slice none 0 0] 57)).alloc (.cells #[.slice A l.length c] 27)).alloc (.cells #[.int .i64 4] 3) := ⟨_, rfl⟩
  have hbs : Boxed W0 (w.heap.size + 1) 27 (.slice A l.length c) := by
    rw [hW0]
    have h := (Boxed.new (w.alloc (.cells #[.slice none 0 0] 57)) 27 (.slice A l.length c)).alloc (.cells #[.int .i64 4] 3)
    rw [World.size_alloc] at h
    exact h
  have hbn : Boxed W0 (w.heap.size + 1 + 1) 3 (.int .i64 4) := by
    rw [hW0]
    have h := Boxed.new ((w.alloc (.cells #[.slice none 0 0] 57)).alloc (.cells #[.slice A l.length c] 27)) 3 (.int .i64 4)
    rw [World.size_alloc, World.size_alloc] at h
    exact h
  have hbo : Boxed W0 w.heap.size 57 (.slice none 0 0) := by rw [hW0]; exact (bO.alloc _).alloc _
  have hB0 : Below w.heap.size w W0 := by rw [hW0]; exact below_alloc (below_alloc (below_alloc (Below.refl _ _) _) _) _
  have hs0 : W0.heap.size = w.heap.size + 3 := by rw [hW0]; simp
  rw [← hW0]
  clear hW0
  refine wpIn_rangeFunc_ownF rfl (by omega) (gf := 50) (lb := #[.pointer (some ⟨w.heap.size + 1, 0, none⟩), .pointer (some ⟨w.heap.size + 1 + 1, 0, none⟩)]) rfl trivial (enters_of Try.func50 (by kernel_rfl) rfl)
    (chunk_stops 4 (by omega) (w.heap.size + 1) (w.heap.size + 1 + 1) A ad m c hA (by omega) (by omega) W0 (by rw [← hl]; exact hbs) hbn) (fun h k => h.trans k)
    (fun W i o o' hi ho _ _ => ⟨by simp, fun j hj hlt => World.putObj_heap_other (by rcases hj with rfl | rfl <;> omega)⟩) (Below.refl _ _) (fun _ => rfl)
    (fun pre W => (∃ v, Boxed W w.heap.size 57 v ∧ W.ownsRow w.heap.size 22 1 v pre.length ((numsF l m pre).map (Value.int .u32)) ∧ True) ∧ (Boxed W (w.heap.size + 1) 27 (.slice A l.length c) ∧ Boxed W (w.heap.size + 1 + 1) 3 (.int .i64 4)) ∧ Below w.heap.size w W)
    (fun _ _ _ => False)
    (OwnFrom.and (Own.from (holdsRow_own w.heap.size w.heap.size 57 22 1 (fun pre => pre.length) (fun pre => (numsF l m pre).map (Value.int .u32)) (fun _ _ => True)) _) (OwnFrom.and (OwnFrom.and (Own.from (boxed_own _ _ _) _) (Own.from (boxed_own _ _ _) _)) (ownFrom_below (Nat.le_refl _) (by omega))))
    (fun _ _ _ _ _ hs _ _ => hs)
    ⟨⟨_, hbo, World.ownsRow_nil _ _ _ _, trivial⟩, ⟨hbs, hbn⟩, hB0⟩
    (fun k => { tmps := #[.slice A l.length c, undef, .slice none 0 0, .int .i64 0, .pointer (some ⟨w.heap.size, 0, none⟩), piece ad (k % m), .slice A l.length c, .int .i64 l.length, .int .i64 ((l.length : Int) % 4), .bool false, .slice A l.length c, .func (.func 50) #[] #[.pointer (some ⟨w.heap.size + 1, 0, none⟩), .pointer (some ⟨w.heap.size + 1 + 1, 0, none⟩)], piece ad (k % m), undef, undef, undef, undef, undef, undef], defers := [] }) ?assign ?body ?done ?stop
  case assign =>
    intro l' x W K hK
    clear hl
    gi_wp2
    exact hK
  case body =>
    rintro l' pre k W ⟨⟨v, hv, hrow, _⟩, ⟨hb1, hb2⟩, hB⟩ hlt
    obtain rfl := hA (by omega)
    have hkm : k % m < m := Nat.mod_lt _ (by omega)
    have HNum := Aside0.mk (show ∀ X : World, Below w.heap.size w X → Calls Try.prog 43 #[piece ad (k % m)] X (fun e w' => e = .returned (.int .u32 (numF (fourAt l (k % m)))) ∧ Drawn0 X w') from fun X hX => by
      have hC := piece_C (Kd.C_below hr hX) hc (k % m) (by omega) (by omega)
      have h4 : (fourAt l (k % m)).length = 4 := by unfold fourAt; rw [List.length_take, List.length_drop]; omega
      unfold piece
      have h := prop_number.calls (some (ad.add (4 * (k % m)))) 4 (fourAt l (k % m)) (numF (fourAt l (k % m))) X (by rw [h4]; exact hC) (by omega) (number_eq _ h4)
      rw [h4] at h
      exact h)
    clear hl hs0
    have hcv := hv.cell
    gi_wp2
    refine start_in (m := 6) (S := fun w' => w'.cell? ⟨w.heap.size, 0, none⟩ = some v) (ds := [4, 5]) #[false, false, false, false, false, false] (by kernel_rfl) rfl rfl hcv (by kernel_rfl) (fun ⟨_, _, h⟩ => h) (fun hHeld => ?_)
    refine take_ (i := 0) (N := some 13) (v := v) (a' := ?_) #[true, false, false, false, false, false] rfl rfl (by kernel_rfl) (fun _ _ _ h => h) (Or.inl ⟨by rfl, ?_⟩) hHeld ?_ ?_
    rotate_left
    rotate_left
    · simp only [Act.put, List.setIfInBounds_toArray, List.set_cons_zero, List.set_cons_succ]
      rfl
    rotate_left
    · rintro w' s0
      go_simp
    refine pure_ (i := 1) (N := some 14) (v := ?_) (a' := ?_) #[true, true, false, false, false, false] rfl rfl (by kernel_rfl) (fun _ _ _ h => h) (Or.inl ⟨by rfl, ?_⟩) ?_ ?_
    rotate_left
    · intro w'
      go_simp
      with_reducible rfl
    rotate_left
    · simp only [Act.put, List.setIfInBounds_toArray, List.set_cons_zero, List.set_cons_succ]
      rfl
    refine one_ (i := 2) (N := some 15) #[true, true, true, false, false, false] rfl rfl (by kernel_rfl) (by decide) (fun K hK => ?_)
    refine goes_ Try.func43 (by kernel_rfl) rfl #[piece ad (k % m)] (by rfl) rfl rfl (by first | rfl | (simp only [List.map_toArray, List.map_cons, List.map_nil]; rfl)) ?_
    refine (HNum.out _ (below_drew hB)).mono ?_
    rintro e w2 ⟨rfl, hd⟩
    obtain ⟨⟨nn, rfl⟩⟩ := hd
    refine ⟨_, rfl, hK.out _ _ hcv (fun hHeld => ?_)⟩
    clear hK K
    simp only [Act.put, List.setIfInBounds_toArray, List.set_cons_zero, List.set_cons_succ]
    obtain ⟨X, hX⟩ : ∃ X, X = W.drew.drewN nn := ⟨_, rfl⟩
    have hvX : Boxed X w.heap.size 57 v := by rw [hX]; exact hv
    have hb1X : Boxed X (w.heap.size + 1) 27 (.slice (some ad) l.length c) := by rw [hX]; exact hb1
    have hb2X : Boxed X (w.heap.size + 1 + 1) 3 (.int .i64 4) := by rw [hX]; exact hb2
    have hrowX : X.ownsRow w.heap.size 22 1 v pre.length ((numsF l m pre).map (Value.int .u32)) := by rw [hX]; exact hrow
    have hBX : Below w.heap.size w X := by rw [hX]; exact pw_below_drewN (below_drew hB) nn
    have hKX : KeepsOthers W X := by rw [hX]; exact ⟨Nat.le_refl _, fun _ _ h _ => h⟩
    have hCX : KpC (w.heap.size + 1) (w.heap.size + 1 + 1) W X := by rw [hX]; exact ⟨Nat.le_refl _, fun _ _ _ => rfl⟩
    rw [← hX] at hHeld ⊢
    clear hX
    refine one_ (i := 3) (N := some 16) #[true, true, true, true, false, false] rfl rfl (by kernel_rfl) (by decide) (fun K hK => ?_)
    refine event_stepN (by rfl) rfl (v := .slice (some ⟨X.heap.size, 0, none⟩) 1 1) (w1 := X.alloc (.cells #[.int .u32 (numF (fourAt l (k % m)))] 22)) (by first | (go_simp; done) | (go_simp; rfl)) (hK.out _ _ (hvX.alloc _).cell (fun hHeld => ?_))
    clear hK K
    simp only [Act.put, List.setIfInBounds_toArray, List.set_cons_zero, List.set_cons_succ]
    refine last_ (i := 4) (N := some 17) #[true, true, true, true, true, false] rfl rfl (by kernel_rfl) (by decide) (fun K hK => ?_)
    have HRX : Kd.R (Kd.int .u32) 22 X w.heap.size (fun _ => True) v (numsF l m pre) := Kd.R_of_own (by rw [numsF_len]; exact hrowX) (fun _ _ => trivial)
    refine Kd.R_append_step (Kd.int .u32) (w0 := w) w.heap.size (by rfl) (.tmp 13) (.tmp 16) 57 22 (.int .u32 0) 4 rfl Try.underlying57 info22i rfl (by decide) (by decide) v (numsF l m pre) (numF (fourAt l (k % m))) [.int .u32 (numF (fourAt l (k % m)))] (fun _ => True) (fun _ => False) rfl rfl rfl (fun _ h => h.elim) (fun _ _ => trivial) HRX hBX hBX.size (by rw [numsF_len]; omega) ?_
    intro v1 w1 ho hb hg hat
    refine hK.out _ _ ?_
    clear hK K
    simp only [Act.put, List.getElem_toArray, List.getElem_cons_succ, List.getElem_cons_zero, List.setIfInBounds_toArray, List.set_cons_zero, List.set_cons_succ]
    have hv1 : Boxed w1 w.heap.size 57 v := hvX.kept hg (hvX.not_row (by decide) hrowX)
    have hbs1 := hb1X.kept hg (hb1X.not_row (by decide) hrowX)
    have hbn1 := hb2X.kept hg (hb2X.not_row (by decide) hrowX)
    have hown1 := Kd.own_of_R ho
    have hne := hv1.not_row (by decide) hown1
    have hc1 := hv1.cell
    have hf1 := hv1.frozen
    refine last_ (i := 5) (N := none) #[true, true, true, true, true, true] rfl rfl (by kernel_rfl) (by decide) (fun K hK => ?_)
    refine skip_stepN (by rfl) rfl (w1 := w1.setCell ⟨w.heap.size, 0, none⟩ v1) ?_ (hK.out _ _ ?_)
    · obtain ⟨Av, cv, rfl⟩ := Kd.R_slice ho
      first | (go_simp; done) | (go_simp; rfl)
    clear hK K
    refine done_ (n := 0) (by kernel_rfl) ?_
    have hk2 : KeepsOthers W (w1.setCell ⟨w.heap.size, 0, none⟩ v1) := by
      refine (hKX.trans ?_).trans (KeepsOthers.setCell _ _ _)
      exact KeepsOthers.of_grownBy hg (fun j o hj hjo => by obtain ⟨cc, hcc⟩ := own_typed hrowX j hj; rw [hcc] at hjo; cases hjo; rfl)
    refine ⟨hk2, ⟨hk2.size, fun i hi _ => ?_⟩, ⟨v1, hv1.set v1, ?_, trivial⟩, ⟨hbs1.other (by omega) v1, hbn1.other (by omega) v1⟩, below_set hb (Nat.le_refl _)⟩
    · rcases hi with rfl | rfl
      · exact (show _ = _ from hbs1.other (by omega) v1).trans (show _ = _ from hb1).symm
      · exact (show _ = _ from hbn1.other (by omega) v1).trans (show _ = _ from hb2).symm
    · have h := hown1.kept (grownBy_setCell' w1 w.heap.size v1) (.inr hne.symm)
      rw [numsF_snoc, List.map_append, List.length_append]
      rw [List.length_append, numsF_len] at h
      simpa [encs] using h
  case done =>
    rintro D ys W hD rfl ⟨⟨v, hv, hrow, _⟩, _, hB⟩ hK
    have hc := hv.cell
    gi_wp2
    refine ⟨by simp, .inl ⟨_, _, rfl, run_takeDeferred hK, ?_⟩⟩
    have hrow2 := ownsRow_putObj hrow (.deferred none) hK rfl
    rw [List.length_range] at hrow2
    exact ⟨_, results_tmp2 rfl _ _ _, v, rfl, hrow2, hB.trans (belowK_b (w := w) (Nat.le_refl _) W D _ _ (by omega) hK rfl rfl)⟩
  case stop =>
    rintro D c pre W _ _ h _
    exact h.elim
theorem numsF_range (l : List Int) (m : Nat) : numsF l m (List.range m) = (List.range m).map fun k => numF (fourAt l k) := by
  unfold numsF
  apply List.map_congr_left
  intro k hk
  rw [Nat.mod_eq_of_lt (List.mem_range.1 hk)]
/-- All numbers of bytes. -/
def allNums (l : List Int) : List Int := (List.range (l.length / 4)).map fun k => numF (fourAt l k)
def prop_Ints.f (l : List Int) : Option (List Int × Int) := if l.length % 4 = 0 then (if l.length ≤ 4000000 then some (allNums l, 0) else none) else some ([], 15)
set_option maxHeartbeats 1000000 in
set_option maxRecDepth 100000 in
theorem prop_Ints.calls (A0 : Option Addr) (c0 : Nat) (l0 : List Int) (r1 : List Int) (r2 : Int) (w : World) (hr0 : Kd.C (Kd.int .u8) w A0 l0.length l0) (hc0 : l0.length ≤ c0) (h : prop_Ints.f l0 = some (r1, r2)) :
    Calls Try.prog 29 #[.slice A0 l0.length c0] w fun e w' => ∃ v0_ : Value, e = .returned (.tuple #[v0_, .int .i64 r2]) ∧ Kd.R (Kd.int .u32) 22 w' w.heap.size (fun _ => True) v0_ r1 ∧ Below w.heap.size w w' := by
  unfold prop_Ints.f at h
  by_cases h4 : l0.length % 4 = 0
  · rw [if_pos h4] at h
    by_cases hb : l0.length ≤ 4000000
    · rw [if_pos hb] at h
      obtain ⟨rfl, rfl⟩ := Prod.mk.inj (Option.some.inj h)
      refine (ints_calls A0 c0 (l0.length / 4) l0 w (by omega) hr0 hc0 (by omega)).mono ?_
      rintro e w' ⟨v, rfl, ho, hb⟩
      refine ⟨v, rfl, Kd.R_of_own (xs := allNums l0) ?_ (fun _ _ => trivial), hb⟩
      rw [numsF_range] at ho
      have hl : (allNums l0).length = l0.length / 4 := by unfold allNums; rw [List.length_map, List.length_range]
      rw [hl]
      exact ho
    · rw [if_neg hb] at h
      cases h
  · rw [if_neg h4] at h
    obtain ⟨rfl, rfl⟩ := Prod.mk.inj (Option.some.inj h)
    have d0 : ((l0.length : Int) % 4 != 0) = true := bne_iff_ne.2 (by omega)
    clear h h4 hr0 hc0
    go_enter Try.func29, Try.ntmps29
    go_wp2
    go_ret2
    exact ⟨_, rfl, Kd.R_nil _ _ _ _ _, Below.refl _ _⟩
end Go.Proofs.Ytnbomjfpnpmllaa.Q
