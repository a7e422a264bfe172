/- What is found in an NVRAM. -/
import Derived.Test.YtlpagilpbdiniaaHNvCounts
import Derived.Test.YtlpagilpbdiniaaHClone
namespace Go.Proofs.Ytlpagilpbdiniaa.Q
open Go.RowKit Go.Proofs.YtlpagilpbdiniaaW.PrintWords Go.Proofs.YtlpagilpbdiniaaW.PrintLast Go.Proofs.YtlpagilpbdiniaaW.PrintMore
theorem bothF_len (nv : List Int) : (bothF nv).length = 512 := by
  unfold bothF
  split
  · assumption
  · exact List.length_replicate
theorem bothF_bytes {nv : List Int} (h : Bytes nv) : Bytes (bothF nv) := by
  unfold bothF
  split
  · exact h
  · intro a ha
    have := List.eq_of_mem_replicate ha
    omega
def bankF (L : List Int) (k : Int) : List Int := if k = 0 then L.take 256 else L.drop 256
theorem bankF_bytes {L : List Int} (h : Bytes L) (k : Int) : Bytes (bankF L k) := by
  unfold bankF
  split
  · exact h.take _
  · exact h.drop _
theorem dataF_len (B : List Int) (hB : B.length = 256) : (dataF B).1.length ≤ 248 := by
  unfold dataF
  split
  · simp [List.length_take, List.length_drop, hB]; omega
  · simp
theorem dataF_bytes {B : List Int} (h : Bytes B) : Bytes (dataF B).1 := by
  unfold dataF
  split
  · exact (h.drop _).take _
  · intro a ha; cases ha
theorem bankF_len {L : List Int} (h : L.length = 512) (k : Int) : (bankF L k).length = 256 := by
  unfold bankF
  split
  · rw [List.length_take]; omega
  · rw [List.length_drop]; omega
theorem countsF_cases (L : List Int) : countsF L = -1 ∨ countsF L = 0 ∨ countsF L = 1 := by
  unfold countsF
  split
  · right; right; rfl
  · split
    · right; left; rfl
    · left; rfl
/-- What is found in an NVRAM. -/
def recF (nv : List Int) : List Int × Int × Bool :=
  if nv.length = 512 ∧ 0 ≤ countsF nv then ((dataF (bankF nv (countsF nv))).1, countsF nv, true) else ([], 0, false)
theorem bank_C {w : World} {b : Nat} {L : List Int} (hL : Kd.C (Kd.int .u8) w (some ⟨b, 0, none⟩) 512 L) (k : Int) (hk : k = 0 ∨ k = 1) : Kd.C (Kd.int .u8) w (some ⟨b, k.toNat * 256, none⟩) 256 (bankF L k) := by
  have hl := Kd.C_len hL
  unfold bankF
  rcases hk with rfl | rfl
  · exact C_cut hL (c := 1000) (by omega) 0 256 (by omega)
  · have h : Kd.C (Kd.int .u8) w (some ⟨b, 256, none⟩) 256 ((L.drop 256).take 256) := C_cut hL (c := 1000) (by omega) 256 256 (by omega)
    rw [List.take_of_length_le (by rw [List.length_drop]; omega)] at h
    exact h
/-- A block of many cells, as an argument of array type or a local of it. -/
theorem arr_C {w : World} {g : Nat} {L : List Int} {t : TypeId} (h : w.heap[g]? = some (.cells (byteCells L).toArray t (0, 0))) (hl : L.length = 512) : Kd.C (Kd.int .u8) w (some ⟨g, 0, none⟩) 512 L :=
  C_of_range (fun j v hv => by rw [blk_cell h, Nat.zero_add]; simpa using hv) hl (by omega)
theorem wpList_store_arr {P : Program} {ops : Array Oper} {rest : List Oper} {op : Oper} {a : Act} {w0 w : World} {Q : Exit → Act → World → Prop} (hgd : op.guard = none) (ty : TypeId) (x y : Operand) (ho : op.op = .store ty x y)
    (b o : Nat) (cs : List Value) (hx : a.eval x = .pointer (some ⟨b, o, none⟩)) (hy : a.eval y = .agg cs.toArray)
    (ht : w.there b o cs.length) (hi : (P.info? ty).map (·.size) = some cs.length) (h1 : ∀ v ∈ cs, v.oneCell' = true) (HB : Below w0.heap.size w0 w) (hb : w0.heap.size ≤ b)
    (h : ∀ w1, w1.rangeAt b o cs → Below w0.heap.size w0 w1 → (∀ k, k ≠ b → w1.heap[k]? = w.heap[k]?) → wpList P ops Q rest (a.put op.dst undef) w1) : wpList P ops Q (op :: rest) a w :=
  wpList_store_mid hgd ty x y ho b o cs.toArray hx hy (by rw [List.size_toArray]; exact ht) (by rw [List.size_toArray]; exact hi) (all_oneCell_toArray h1)
    (h _ (World.rangeAt_setCells_same w b o cs ht) (below_setCells HB hb cs) (fun k hk => setCells_far cs o k hk))
set_option maxHeartbeats 4000000 in
set_option maxRecDepth 100000 in
theorem recover_calls (A0 : Option Addr) (c0 : Nat) (nv : List Int) (w : World) (hr0 : Kd.C (Kd.int .u8) w A0 nv.length nv) (hc0 : nv.length ≤ c0) (hb0 : Bytes nv) :
    Calls Try.prog 14 #[.slice A0 nv.length c0] w fun e w' => ∃ v : Value, e = .returned (.tuple #[v, .int .i64 (recF nv).2.1, .bool (recF nv).2.2]) ∧ Kd.R (Kd.int .u8) 5 w' w.heap.size (fun _ => True) v (recF nv).1 ∧ Below w.heap.size w w' := by
  obtain ⟨Z, hZ⟩ : ∃ Z, Z = byteCells (List.replicate 512 0) := ⟨_, rfl⟩
  obtain ⟨L, hL⟩ : ∃ L, L = bothF nv := ⟨_, rfl⟩
  obtain ⟨k, hk⟩ : ∃ k, k = countsF L := ⟨_, rfl⟩
  obtain ⟨ok, hok⟩ : ∃ ok, ok = decide (nv.length = 512) := ⟨_, rfl⟩
  obtain ⟨R, hR⟩ : ∃ R, R = recF nv := ⟨_, rfl⟩
  rw [← hR]
  have hLl : L.length = 512 := by rw [hL]; exact bothF_len nv
  have HLB := Aside0.mk (show Bytes L from hL ▸ bothF_bytes hb0)
  have HZL := Aside0.mk (show Z.length = 512 by rw [hZ, byteCells_len]; simp)
  have HLC := Aside0.mk (show (byteCells L).length = 512 by rw [byteCells_len]; exact hLl)
  have HLL := Aside0.mk hLl
  have HZ := Aside0.mk hZ
  have hkc := countsF_cases L
  rw [← hk] at hkc
  have HBo := Aside0.mk (show Calls Try.prog 23 #[.slice A0 nv.length c0] w (fun e w' => e = .returned (.tuple #[.agg (byteCells L).toArray, .bool ok]) ∧ Below w.heap.size w w') from by rw [hL, hok]; exact both_calls A0 c0 nv w hr0 hc0)
  have HCo := Aside0.mk (show ∀ (g : Nat) (W : World), Kd.C (Kd.int .u8) W (some ⟨g, 0, none⟩) 512 L → Calls Try.prog 24 #[.pointer (some ⟨g, 0, none⟩)] W (fun e w' => e = .returned (.int .i64 k) ∧ Below W.heap.size W w') from fun g W h => by rw [hk]; exact counts_calls g L W h HLB.out)
  have hRe : R = if ok = true ∧ 0 ≤ k then ((dataF (bankF L k)).1, k, true) else ([], 0, false) := by
    rw [hR, hk, hL, hok]
    unfold recF bothF
    by_cases h : nv.length = 512
    · simp [h]
    · simp [h]
  have HR := Aside0.mk hRe
  clear hZ hLl hL hk hok hR hRe hr0 hc0 hb0
  by_cases hc : ok = true ∧ 0 ≤ k
  · obtain ⟨rfl, hk0⟩ := hc
    have hlt : decide (k < 0) = false := decide_eq_false (by omega)
    have p1 : (0 ≤ k) = True := eq_true hk0
    have p2 : (k < 2) = True := eq_true (by omega)
    have HK := Aside0.mk (show k = 0 ∨ k = 1 by omega)
    obtain ⟨d, hd⟩ : ∃ d, d = (dataF (bankF L k)).1 := ⟨_, rfl⟩
    have hdl : d.length ≤ 248 := by rw [hd]; exact dataF_len _ (bankF_len HLL.out k)
    have HCl := Aside0.mk (show slices_Clone_byte_byte.f d = some d by unfold slices_Clone_byte_byte.f; rw [if_pos (by omega)])
    have HDa := Aside0.mk (show ∀ (g : Nat) (W : World), Kd.C (Kd.int .u8) W (some ⟨g, k.toNat * 256, none⟩) 256 (bankF L k) → Calls Try.prog 25 #[.pointer (some ⟨g, k.toNat * 256, none⟩)] W (fun e w' => ∃ (A : Option Addr) (c : Nat), e = .returned (.tuple #[.slice A d.length c, .bool (dataF (bankF L k)).2]) ∧ Kd.C (Kd.int .u8) W A d.length d ∧ d.length ≤ c ∧ Below W.heap.size W w') from fun g W h => by rw [hd]; exact data_calls g _ _ W h (bankF_bytes HLB.out k))
    have hRr : R = (d, k, true) := by rw [HR.out, if_pos ⟨rfl, hk0⟩, hd]
    have HRr := Aside0.mk hRr
    clear HR hRr hd hk0 hkc hdl
    go_enter Try.func14, Try.ntmps14
    go_wp2_with (first
      | (go_at_call 23; (with_reducible refine HBo.out.mono ?_); rintro e w1 ⟨rfl, hb⟩; have HB := Aside0.mk (below_step (Below.refl _ _) hb); clear hb)
      | ((with_reducible refine gate_dst (N := 5) rfl ?_); refine box_event ?hg (N := 5) ?hd (cs := Z.toArray) (t := 50) ?hr ?_; (case hd => rfl); (case hg => rfl); (case hr => have hZ2 := HZ.out; first | (go_simp; done) | (go_simp; rfl)); intro gb hg w2 hbox hb; have BK := Aside0.mk hbox; have GB := Aside0.mk (show w.heap.size ≤ gb from hg ▸ HB.out.size); have HB2 := Aside0.mk (below_step HB.out hb); clear hbox hb hg HB)
      | ((with_reducible refine gate_ (.store 50 (.tmp 5) (.tmp 13)) rfl ?_); refine wpList_store_arr (w0 := w) rfl 50 (.tmp 5) (.tmp 13) rfl gb 0 (byteCells L) rfl rfl ?ht (by rw [HLC.out]; exact size50) (byteCells_one L) HB2.out GB.out ?_; (case ht => exact fun j hj => ⟨by rw [blk_cell BK.out]; have := HLC.out; have := HZL.out; simp; omega, blk_frozen BK.out _⟩); intro w3 hrg hb _; have HC3 := Aside0.mk (C_of_range (L := L) (n := 512) hrg HLL.out (by decide)); have HB3 := Aside0.mk hb; clear hrg hb BK HB2)
      | (go_at_call 24; (with_reducible refine (HCo.out gb _ ?cc).mono ?_); (case cc => exact HC3.out); rintro e w4 ⟨rfl, hb⟩; have HC4 := Aside0.mk (Kd.C_below HC3.out hb); have HB4 := Aside0.mk (below_step HB3.out hb); clear hb)
      | (go_at_call 25; (with_reducible refine (HDa.out gb _ ?cd).mono ?_); (case cd => exact bank_C HC4.out k HK.out); rintro e w5 ⟨A, c, rfl, hcd, hle, hb⟩; have HD5 := Aside0.mk (Kd.C_below hcd hb); have HLE := Aside0.mk hle; have HB5 := Aside0.mk (below_step HB4.out hb); clear hcd hle hb)
      | (go_at_call 26; refine (slices_Clone_byte_byte.calls _ _ _ _ _ HD5.out HLE.out HCl.out).mono ?_; rintro e w6 ⟨v, rfl, ho, hb⟩; have HO := Aside0.mk (Kd.R_lower ho HB5.out.size); have HB6 := Aside0.mk (below_step HB5.out hb); clear ho hb))
    go_ret3
    rw [HRr.out]
    exact ⟨_, rfl, HO.out, HB6.out⟩
  · have hRr : R = ([], 0, false) := by rw [HR.out, if_neg hc]
    have HRr := Aside0.mk hRr
    clear HR hRr
    cases ok
    · clear hc hkc
      go_enter Try.func14, Try.ntmps14
      go_wp2_with (first
        | (go_at_call 23; (with_reducible refine HBo.out.mono ?_); rintro e w1 ⟨rfl, hb⟩; have HB := Aside0.mk (below_step (Below.refl _ _) hb); clear hb)
        | ((with_reducible refine gate_dst (N := 5) rfl ?_); refine box_event ?hg (N := 5) ?hd (cs := Z.toArray) (t := 50) ?hr ?_; (case hd => rfl); (case hg => rfl); (case hr => have hZ2 := HZ.out; first | (go_simp; done) | (go_simp; rfl)); intro gb hg w2 hbox hb; have BK := Aside0.mk hbox; have GB := Aside0.mk (show w.heap.size ≤ gb from hg ▸ HB.out.size); have HB2 := Aside0.mk (below_step HB.out hb); clear hbox hb hg HB)
        | ((with_reducible refine gate_ (.store 50 (.tmp 5) (.tmp 13)) rfl ?_); refine wpList_store_arr (w0 := w) rfl 50 (.tmp 5) (.tmp 13) rfl gb 0 (byteCells L) rfl rfl ?ht (by rw [HLC.out]; exact size50) (byteCells_one L) HB2.out GB.out ?_; (case ht => exact fun j hj => ⟨by rw [blk_cell BK.out]; have := HLC.out; have := HZL.out; simp; omega, blk_frozen BK.out _⟩); intro w3 hrg hb _; have HC3 := Aside0.mk (C_of_range (L := L) (n := 512) hrg HLL.out (by decide)); have HB3 := Aside0.mk hb; clear hrg hb BK HB2)
        | (go_at_call 24; (with_reducible refine (HCo.out gb _ ?cc).mono ?_); (case cc => exact HC3.out); rintro e w4 ⟨rfl, hb⟩; have HC4 := Aside0.mk (Kd.C_below HC3.out hb); have HB4 := Aside0.mk (below_step HB3.out hb); clear hb)
        | (go_at_call 25; (with_reducible refine (HDa.out gb _ ?cd).mono ?_); (case cd => exact bank_C HC4.out k HK.out); rintro e w5 ⟨A, c, rfl, hcd, hle, hb⟩; have HD5 := Aside0.mk (Kd.C_below hcd hb); have HLE := Aside0.mk hle; have HB5 := Aside0.mk (below_step HB4.out hb); clear hcd hle hb)
        | (go_at_call 26; refine (slices_Clone_byte_byte.calls _ _ _ _ _ HD5.out HLE.out HCl.out).mono ?_; rintro e w6 ⟨v, rfl, ho, hb⟩; have HO := Aside0.mk (Kd.R_lower ho HB5.out.size); have HB6 := Aside0.mk (below_step HB5.out hb); clear ho hb))

      go_ret3
      rw [HRr.out]
      exact ⟨_, rfl, Kd.R_nil _ _ _ _ _, HB4.out⟩
    · have hlt : decide (k < 0) = true := decide_eq_true (by
        have : ¬ 0 ≤ k := fun h => hc ⟨rfl, h⟩
        omega)
      clear hc hkc
      go_enter Try.func14, Try.ntmps14
      go_wp2_with (first
        | (go_at_call 23; (with_reducible refine HBo.out.mono ?_); rintro e w1 ⟨rfl, hb⟩; have HB := Aside0.mk (below_step (Below.refl _ _) hb); clear hb)
        | ((with_reducible refine gate_dst (N := 5) rfl ?_); refine box_event ?hg (N := 5) ?hd (cs := Z.toArray) (t := 50) ?hr ?_; (case hd => rfl); (case hg => rfl); (case hr => have hZ2 := HZ.out; first | (go_simp; done) | (go_simp; rfl)); intro gb hg w2 hbox hb; have BK := Aside0.mk hbox; have GB := Aside0.mk (show w.heap.size ≤ gb from hg ▸ HB.out.size); have HB2 := Aside0.mk (below_step HB.out hb); clear hbox hb hg HB)
        | ((with_reducible refine gate_ (.store 50 (.tmp 5) (.tmp 13)) rfl ?_); refine wpList_store_arr (w0 := w) rfl 50 (.tmp 5) (.tmp 13) rfl gb 0 (byteCells L) rfl rfl ?ht (by rw [HLC.out]; exact size50) (byteCells_one L) HB2.out GB.out ?_; (case ht => exact fun j hj => ⟨by rw [blk_cell BK.out]; have := HLC.out; have := HZL.out; simp; omega, blk_frozen BK.out _⟩); intro w3 hrg hb _; have HC3 := Aside0.mk (C_of_range (L := L) (n := 512) hrg HLL.out (by decide)); have HB3 := Aside0.mk hb; clear hrg hb BK HB2)
        | (go_at_call 24; (with_reducible refine (HCo.out gb _ ?cc).mono ?_); (case cc => exact HC3.out); rintro e w4 ⟨rfl, hb⟩; have HC4 := Aside0.mk (Kd.C_below HC3.out hb); have HB4 := Aside0.mk (below_step HB3.out hb); clear hb)
        | (go_at_call 25; (with_reducible refine (HDa.out gb _ ?cd).mono ?_); (case cd => exact bank_C HC4.out k HK.out); rintro e w5 ⟨A, c, rfl, hcd, hle, hb⟩; have HD5 := Aside0.mk (Kd.C_below hcd hb); have HLE := Aside0.mk hle; have HB5 := Aside0.mk (below_step HB4.out hb); clear hcd hle hb)
        | (go_at_call 26; refine (slices_Clone_byte_byte.calls _ _ _ _ _ HD5.out HLE.out HCl.out).mono ?_; rintro e w6 ⟨v, rfl, ho, hb⟩; have HO := Aside0.mk (Kd.R_lower ho HB5.out.size); have HB6 := Aside0.mk (below_step HB5.out hb); clear ho hb))

      go_ret3
      rw [HRr.out]
      exact ⟨_, rfl, Kd.R_nil _ _ _ _ _, HB4.out⟩
end Go.Proofs.Ytlpagilpbdiniaa.Q
