/- Contracts of Go functions and plain facts, of several texts, one behind the other; no condition. -/
import Derived.Test.YtefhngadeimklaaDoorMVarsLoads5
import Derived.Test.YtefhngadeimklaaDoorMVarsLoads2
import Derived.Test.YtefhngadeimklaaDoorMVarsLoads4
section
namespace Go.Proofs.YtefhngadeimklaaDoor.Q
open Go.RowKit Go.Proofs.YtefhngadeimklaaDoorW.PrintWords Go.Proofs.YtefhngadeimklaaDoorW.PrintLast Go.Proofs.YtefhngadeimklaaDoorW.PrintMore
theorem bothF_len (nv : List Int) : (bothF nv).length = 512 := by
  unfold bothF
  split
  · assumption
  · exact List.length_replicate
theorem bothF_bytes {nv : List Int} (h : nv_Bytes nv) : nv_Bytes (bothF nv) := by
  unfold bothF
  split
  · exact h
  · intro a ha
    have := List.eq_of_mem_replicate ha
    omega
def bankF (L : List Int) (k : Int) : List Int := if k = 0 then L.take 256 else L.drop 256
theorem bankF_bytes {L : List Int} (h : nv_Bytes L) (k : Int) : nv_Bytes (bankF L k) := by
  unfold bankF
  split
  · exact h.take _
  · exact h.drop _
theorem dataF_len (B : List Int) (hB : B.length = 256) : (dataF B).1.length ≤ 248 := by
  unfold dataF
  split
  · simp [List.length_take, List.length_drop, hB]; omega
  · simp
theorem dataF_bytes {B : List Int} (h : nv_Bytes B) : nv_Bytes (dataF B).1 := by
  unfold dataF
  split
  · exact (h.drop _).take _
  · intro a ha; cases ha
theorem bankF_len {L : List Int} (h : L.length = 512) (k : Int) : (bankF L k).length = 256 := by
  unfold bankF
  split
  · rw [List.length_take]; omega
  · rw [List.length_drop]; omega
theorem countsF_cases (L : List Int) : countsF L = -1 ∨ countsF L = 0 ∨ countsF L = 1 := by
  unfold countsF
  split
  · right; right; rfl
  · split
    · right; left; rfl
    · left; rfl
/-- What is found in an NVRAM. -/
def recF (nv : List Int) : List Int × Int × Bool :=
  if nv.length = 512 ∧ 0 ≤ countsF nv then ((dataF (bankF nv (countsF nv))).1, countsF nv, true) else ([], 0, false)
theorem bank_C {w : World} {b : Nat} {L : List Int} (hL : Kd.C (Kd.int .u8) w (some ⟨b, 0, none⟩) 512 L) (k : Int) (hk : k = 0 ∨ k = 1) : Kd.C (Kd.int .u8) w (some ⟨b, k.toNat * 256, none⟩) 256 (bankF L k) := by
  have hl := Kd.C_len hL
  unfold bankF
  rcases hk with rfl | rfl
  · exact C_cut hL (c := 1000) (by omega) 0 256 (by omega)
  · have h : Kd.C (Kd.int .u8) w (some ⟨b, 256, none⟩) 256 ((L.drop 256).take 256) := C_cut hL (c := 1000) (by omega) 256 256 (by omega)
    rw [List.take_of_length_le (by rw [List.length_drop]; omega)] at h
    exact h
theorem wpList_store_arr {P : Program} {ops : Array Oper} {rest : List Oper} {op : Oper} {a : Act} {w0 w : World} {Q : Exit → Act → World → Prop} (hgd : op.guard = none) (ty : TypeId) (x y : Operand) (ho : op.op = .store ty x y)
    (b o : Nat) (cs : List Value) (hx : a.eval x = .pointer (some ⟨b, o, none⟩)) (hy : a.eval y = .agg cs.toArray)
    (ht : w.there b o cs.length) (hi : (P.info? ty).map (·.size) = some cs.length) (h1 : ∀ v ∈ cs, v.oneCell' = true) (HB : Below w0.heap.size w0 w) (hb : w0.heap.size ≤ b)
    (h : ∀ w1, w1.rangeAt b o cs → Below w0.heap.size w0 w1 → (∀ k, k ≠ b → w1.heap[k]? = w.heap[k]?) → wpList P ops Q rest (a.put op.dst undef) w1) : wpList P ops Q (op :: rest) a w :=
  wpList_store_mid hgd ty x y ho b o cs.toArray hx hy (by rw [List.size_toArray]; exact ht) (by rw [List.size_toArray]; exact hi) (all_oneCell_toArray h1)
    (h _ (World.rangeAt_setCells_same w b o cs ht) (below_setCells HB hb cs) (fun k hk => setCells_far cs o k hk))
set_option maxHeartbeats 4000000 in
set_option maxRecDepth 100000 in
theorem recover_calls (A0 : Option Addr) (c0 : Nat) (nv : List Int) (w : World) (hr0 : Kd.C (Kd.int .u8) w A0 nv.length nv) (hc0 : nv.length ≤ c0) (hb0 : nv_Bytes nv) :
    Calls Tryd.prog 55 #[.slice A0 nv.length c0] w fun e w' => ∃ v : Value, e = .returned (.tuple #[v, .int .i64 (recF nv).2.1, .bool (recF nv).2.2]) ∧ Kd.R (Kd.int .u8) 5 w' w.heap.size (fun _ => True) v (recF nv).1 ∧ Below w.heap.size w w' := by
  obtain ⟨Z, hZ⟩ : ∃ Z, Z = byteCells (List.replicate 512 0) := ⟨_, rfl⟩
  obtain ⟨L, hL⟩ : ∃ L, L = bothF nv := ⟨_, rfl⟩
  obtain ⟨k, hk⟩ : ∃ k, k = countsF L := ⟨_, rfl⟩
  obtain ⟨ok, hok⟩ : ∃ ok, ok = decide (nv.length = 512) := ⟨_, rfl⟩
  obtain ⟨R, hR⟩ : ∃ R, R = recF nv := ⟨_, rfl⟩
  rw [← hR]
  have hLl : L.length = 512 := by rw [hL]; exact bothF_len nv
  have HLB := Aside0.mk (show nv_Bytes L from hL ▸ bothF_bytes hb0)
  have HZL := Aside0.mk (show Z.length = 512 by rw [hZ, byteCells_len]; simp)
  have HLC := Aside0.mk (show (byteCells L).length = 512 by rw [byteCells_len]; exact hLl)
  have HLL := Aside0.mk hLl
  have HZ := Aside0.mk hZ
  have hkc := countsF_cases L
  rw [← hk] at hkc
  have HBo := Aside0.mk (show Calls Tryd.prog 65 #[.slice A0 nv.length c0] w (fun e w' => e = .returned (.tuple #[.agg (byteCells L).toArray, .bool ok]) ∧ Below w.heap.size w w') from by rw [hL, hok]; exact both_calls A0 c0 nv w hr0 hc0)
  have HCo := Aside0.mk (show ∀ (g : Nat) (W : World), Kd.C (Kd.int .u8) W (some ⟨g, 0, none⟩) 512 L → Calls Tryd.prog 66 #[.pointer (some ⟨g, 0, none⟩)] W (fun e w' => e = .returned (.int .i64 k) ∧ Below W.heap.size W w') from fun g W h => by rw [hk]; exact counts_calls g L W h HLB.out)
  have hRe : R = if ok = true ∧ 0 ≤ k then ((dataF (bankF L k)).1, k, true) else ([], 0, false) := by
    rw [hR, hk, hL, hok]
    unfold recF bothF
    by_cases h : nv.length = 512
    · simp [h]
    · simp [h]
  have HR := Aside0.mk hRe
  clear hZ hLl hL hk hok hR hRe hr0 hc0 hb0
  by_cases hc : ok = true ∧ 0 ≤ k
  · obtain ⟨rfl, hk0⟩ := hc
    have hlt : decide (k < 0) = false := decide_eq_false (by omega)
    have p1 : (0 ≤ k) = True := eq_true hk0
    have p2 : (k < 2) = True := eq_true (by omega)
    have HK := Aside0.mk (show k = 0 ∨ k = 1 by omega)
    obtain ⟨d, hd⟩ : ∃ d, d = (dataF (bankF L k)).1 := ⟨_, rfl⟩
    have hdl : d.length ≤ 248 := by rw [hd]; exact dataF_len _ (bankF_len HLL.out k)
    have HCl := Aside0.mk (show slices_Clone_byte_byte.f d = some d by unfold slices_Clone_byte_byte.f; rw [if_pos (by omega)])
    have HDa := Aside0.mk (show ∀ (g : Nat) (W : World), Kd.C (Kd.int .u8) W (some ⟨g, k.toNat * 256, none⟩) 256 (bankF L k) → Calls Tryd.prog 73 #[.pointer (some ⟨g, k.toNat * 256, none⟩)] W (fun e w' => ∃ (A : Option Addr) (c : Nat), e = .returned (.tuple #[.slice A d.length c, .bool (dataF (bankF L k)).2]) ∧ Kd.C (Kd.int .u8) W A d.length d ∧ d.length ≤ c ∧ Below W.heap.size W w') from fun g W h => by rw [hd]; exact data_calls g _ _ W h (bankF_bytes HLB.out k))
    have hRr : R = (d, k, true) := by rw [HR.out, if_pos ⟨rfl, hk0⟩, hd]
    have HRr := Aside0.mk hRr
    clear HR hRr hd hk0 hkc hdl
    go_enter Tryd.func55, Tryd.ntmps55
    go_wp2_with (first
      | (go_at_call 65; (with_reducible refine HBo.out.mono ?_); rintro e w1 ⟨rfl, hb⟩; have HB := Aside0.mk (below_step (Below.refl _ _) hb); clear hb)
      | ((with_reducible refine gate_dst (N := 5) rfl ?_); refine box_event ?hg (N := 5) ?hd (cs := Z.toArray) (t := 92) ?hr ?_; (case hd => rfl); (case hg => rfl); (case hr => have hZ2 := HZ.out; first | (go_simp; done) | (go_simp; rfl)); intro gb hg w2 hbox hb; have BK := Aside0.mk hbox; have GB := Aside0.mk (show w.heap.size ≤ gb from hg ▸ HB.out.size); have HB2 := Aside0.mk (below_step HB.out hb); clear hbox hb hg HB)
      | ((with_reducible refine gate_ (.store 92 (.tmp 5) (.tmp 13)) rfl ?_); refine wpList_store_arr (w0 := w) rfl 92 (.tmp 5) (.tmp 13) rfl gb 0 (byteCells L) rfl rfl ?ht (by rw [HLC.out]; exact size50) (byteCells_one L) HB2.out GB.out ?_; (case ht => exact fun j hj => ⟨by rw [blk_cell BK.out]; have := HLC.out; have := HZL.out; simp; omega, blk_frozen BK.out _⟩); intro w3 hrg hb _; have HC3 := Aside0.mk (C_of_range (L := L) (n := 512) hrg HLL.out (by decide)); have HB3 := Aside0.mk hb; clear hrg hb BK HB2)
      | (go_at_call 66; (with_reducible refine (HCo.out gb _ ?cc).mono ?_); (case cc => exact HC3.out); rintro e w4 ⟨rfl, hb⟩; have HC4 := Aside0.mk (Kd.C_below HC3.out hb); have HB4 := Aside0.mk (below_step HB3.out hb); clear hb)
      | (go_at_call 73; (with_reducible refine (HDa.out gb _ ?cd).mono ?_); (case cd => exact bank_C HC4.out k HK.out); rintro e w5 ⟨A, c, rfl, hcd, hle, hb⟩; have HD5 := Aside0.mk (Kd.C_below hcd hb); have HLE := Aside0.mk hle; have HB5 := Aside0.mk (below_step HB4.out hb); clear hcd hle hb)
      | (go_at_call 57; refine (slices_Clone_byte_byte.calls _ _ _ _ _ HD5.out HLE.out HCl.out).mono ?_; rintro e w6 ⟨v, rfl, ho, hb⟩; have HO := Aside0.mk (Kd.R_lower ho HB5.out.size); have HB6 := Aside0.mk (below_step HB5.out hb); clear ho hb))
    go_ret3
    rw [HRr.out]
    exact ⟨_, rfl, HO.out, HB6.out⟩
  · have hRr : R = ([], 0, false) := by rw [HR.out, if_neg hc]
    have HRr := Aside0.mk hRr
    clear HR hRr
    cases ok
    · clear hc hkc
      go_enter Tryd.func55, Tryd.ntmps55
      go_wp2_with (first
        | (go_at_call 65; (with_reducible refine HBo.out.mono ?_); rintro e w1 ⟨rfl, hb⟩; have HB := Aside0.mk (below_step (Below.refl _ _) hb); clear hb)
        | ((with_reducible refine gate_dst (N := 5) rfl ?_); refine box_event ?hg (N := 5) ?hd (cs := Z.toArray) (t := 92) ?hr ?_; (case hd => rfl); (case hg => rfl); (case hr => have hZ2 := HZ.out; first | (go_simp; done) | (go_simp; rfl)); intro gb hg w2 hbox hb; have BK := Aside0.mk hbox; have GB := Aside0.mk (show w.heap.size ≤ gb from hg ▸ HB.out.size); have HB2 := Aside0.mk (below_step HB.out hb); clear hbox hb hg HB)
        | ((with_reducible refine gate_ (.store 92 (.tmp 5) (.tmp 13)) rfl ?_); refine wpList_store_arr (w0 := w) rfl 92 (.tmp 5) (.tmp 13) rfl gb 0 (byteCells L) rfl rfl ?ht (by rw [HLC.out]; exact size50) (byteCells_one L) HB2.out GB.out ?_; (case ht => exact fun j hj => ⟨by rw [blk_cell BK.out]; have := HLC.out; have := HZL.out; simp; omega, blk_frozen BK.out _⟩); intro w3 hrg hb _; have HC3 := Aside0.mk (C_of_range (L := L) (n := 512) hrg HLL.out (by decide)); have HB3 := Aside0.mk hb; clear hrg hb BK HB2)
        | (go_at_call 66; (with_reducible refine (HCo.out gb _ ?cc).mono ?_); (case cc => exact HC3.out); rintro e w4 ⟨rfl, hb⟩; have HC4 := Aside0.mk (Kd.C_below HC3.out hb); have HB4 := Aside0.mk (below_step HB3.out hb); clear hb)
        | (go_at_call 73; (with_reducible refine (HDa.out gb _ ?cd).mono ?_); (case cd => exact bank_C HC4.out k HK.out); rintro e w5 ⟨A, c, rfl, hcd, hle, hb⟩; have HD5 := Aside0.mk (Kd.C_below hcd hb); have HLE := Aside0.mk hle; have HB5 := Aside0.mk (below_step HB4.out hb); clear hcd hle hb)
        | (go_at_call 57; refine (slices_Clone_byte_byte.calls _ _ _ _ _ HD5.out HLE.out HCl.out).mono ?_; rintro e w6 ⟨v, rfl, ho, hb⟩; have HO := Aside0.mk (Kd.R_lower ho HB5.out.size); have HB6 := Aside0.mk (below_step HB5.out hb); clear ho hb))

      go_ret3
      rw [HRr.out]
      exact ⟨_, rfl, Kd.R_nil _ _ _ _ _, HB4.out⟩
    · have hlt : decide (k < 0) = true := decide_eq_true (by
        have : ¬ 0 ≤ k := fun h => hc ⟨rfl, h⟩
        omega)
      clear hc hkc
      go_enter Tryd.func55, Tryd.ntmps55
      go_wp2_with (first
        | (go_at_call 65; (with_reducible refine HBo.out.mono ?_); rintro e w1 ⟨rfl, hb⟩; have HB := Aside0.mk (below_step (Below.refl _ _) hb); clear hb)
        | ((with_reducible refine gate_dst (N := 5) rfl ?_); refine box_event ?hg (N := 5) ?hd (cs := Z.toArray) (t := 92) ?hr ?_; (case hd => rfl); (case hg => rfl); (case hr => have hZ2 := HZ.out; first | (go_simp; done) | (go_simp; rfl)); intro gb hg w2 hbox hb; have BK := Aside0.mk hbox; have GB := Aside0.mk (show w.heap.size ≤ gb from hg ▸ HB.out.size); have HB2 := Aside0.mk (below_step HB.out hb); clear hbox hb hg HB)
        | ((with_reducible refine gate_ (.store 92 (.tmp 5) (.tmp 13)) rfl ?_); refine wpList_store_arr (w0 := w) rfl 92 (.tmp 5) (.tmp 13) rfl gb 0 (byteCells L) rfl rfl ?ht (by rw [HLC.out]; exact size50) (byteCells_one L) HB2.out GB.out ?_; (case ht => exact fun j hj => ⟨by rw [blk_cell BK.out]; have := HLC.out; have := HZL.out; simp; omega, blk_frozen BK.out _⟩); intro w3 hrg hb _; have HC3 := Aside0.mk (C_of_range (L := L) (n := 512) hrg HLL.out (by decide)); have HB3 := Aside0.mk hb; clear hrg hb BK HB2)
        | (go_at_call 66; (with_reducible refine (HCo.out gb _ ?cc).mono ?_); (case cc => exact HC3.out); rintro e w4 ⟨rfl, hb⟩; have HC4 := Aside0.mk (Kd.C_below HC3.out hb); have HB4 := Aside0.mk (below_step HB3.out hb); clear hb)
        | (go_at_call 73; (with_reducible refine (HDa.out gb _ ?cd).mono ?_); (case cd => exact bank_C HC4.out k HK.out); rintro e w5 ⟨A, c, rfl, hcd, hle, hb⟩; have HD5 := Aside0.mk (Kd.C_below hcd hb); have HLE := Aside0.mk hle; have HB5 := Aside0.mk (below_step HB4.out hb); clear hcd hle hb)
        | (go_at_call 57; refine (slices_Clone_byte_byte.calls _ _ _ _ _ HD5.out HLE.out HCl.out).mono ?_; rintro e w6 ⟨v, rfl, ho, hb⟩; have HO := Aside0.mk (Kd.R_lower ho HB5.out.size); have HB6 := Aside0.mk (below_step HB5.out hb); clear ho hb))

      go_ret3
      rw [HRr.out]
      exact ⟨_, rfl, Kd.R_nil _ _ _ _ _, HB4.out⟩
end Go.Proofs.YtefhngadeimklaaDoor.Q
end
section
namespace Go.Proofs.YtefhngadeimklaaDoor.Q
open Go.RowKit Go.Proofs.YtefhngadeimklaaDoorW.PrintWords Go.Proofs.YtefhngadeimklaaDoorW.PrintLast Go.Proofs.YtefhngadeimklaaDoorW.PrintMore
def bankR (B : List Int) : Int × List Int × Bool :=
  if rd B 0 = 165 ∧ lenF B ≤ 248 then (rd B 1, (B.drop 8).take (lenF B).toNat, beF (B.drop 4) == sumF (rd B 1) ((B.drop 8).take (lenF B).toNat)) else (0, [], false)
set_option maxHeartbeats 4000000 in
set_option maxRecDepth 100000 in
theorem bank_calls (A0 : Option Addr) (c0 : Nat) (nv : List Int) (k : Int) (w : World) (hk : k = 0 ∨ k = 1) (hr0 : Kd.C (Kd.int .u8) w A0 512 nv) (hc0 : 512 ≤ c0) (hb0 : nv_Bytes nv) :
    Calls Tryd.prog 74 #[.slice A0 512 c0, .int .i64 k] w fun e w' => ∃ (A : Option Addr) (c : Nat), e = .returned (.tuple #[.int .u8 (bankR (bankF nv k)).1, .slice A (bankR (bankF nv k)).2.1.length c, .bool (bankR (bankF nv k)).2.2]) ∧ Kd.C (Kd.int .u8) w A (bankR (bankF nv k)).2.1.length (bankR (bankF nv k)).2.1 ∧ (bankR (bankF nv k)).2.1.length ≤ c ∧ Below w.heap.size w w' := by
  have hl := Kd.C_len hr0
  obtain ⟨B, hB⟩ : ∃ B, B = bankF nv k := ⟨_, rfl⟩
  have hBl : B.length = 256 := by rw [hB]; exact bankF_len hl k
  have hBb : nv_Bytes B := by rw [hB]; exact bankF_bytes hb0 k
  rw [← hB]
  obtain ⟨R, hR⟩ : ∃ R, R = bankR B := ⟨_, rfl⟩
  rw [← hR]
  obtain ⟨ad0, ea, -⟩ := Kd.at_int hr0 0 (by omega) (by omega)
  subst ea
  obtain ⟨ad, had⟩ : ∃ ad : Addr, ad = ad0.add (256 * k).toNat := ⟨_, rfl⟩
  obtain ⟨c, hcc⟩ : ∃ c, c = c0 - (256 * k).toNat := ⟨_, rfl⟩
  have hcB : Kd.C (Kd.int .u8) w (some ad) 256 B := by
    have h := C_cut hr0 hc0 (256 * k).toNat 256 (by omega)
    unfold cutAt at h
    rw [if_neg (by omega)] at h
    have e1 : (256 * k).toNat * (Kd.int .u8).sz = (256 * k).toNat := Nat.mul_one _
    rw [e1] at h
    have e2 : (nv.drop (256 * k).toNat).take 256 = B := by
      rw [hB]
      unfold bankF
      rcases hk with rfl | rfl
      · rfl
      · exact List.take_of_length_le (by rw [List.length_drop]; omega)
    rw [e2] at h
    rw [had]
    exact h
  have hcut1 : ∀ W : World, (Instr.slice 42 (.slice (some ad0) 512 c0) (some (.int .i64 (256 * k))) (some (.int .i64 (256 * k + 256))) none).run Tryd.prog W = .ok (.slice (some ad) 256 c) W := fun W => by
    rw [run_cut_lohi (P := Tryd.prog) (sz := 1) Tryd.underlying42 (by kernel_rfl) (some ad0) 512 c0 (256 * k) (256 * k + 256) (by omega) (by omega) (by omega)]
    unfold cutAt
    rw [if_neg (by omega), show (256 * k + 256).toNat - (256 * k).toNat = 256 by omega, Nat.mul_one, had, hcc]
    rfl
  have hx : ∀ i : Int, 0 ≤ i → i < 256 → w.cell? (ad.add i.toNat) = some (.int .u8 (rd B i)) := fun i h0 h1 => by
    obtain ⟨ad', ea, h⟩ := Kd.at_int hcB i h0 (by omega)
    cases ea
    exact h
  have hrr : ∀ i : Int, 0 ≤ i → i < 256 → 0 ≤ rd B i ∧ rd B i < 256 := fun i h0 h1 => by
    have : rd B i = B[i.toNat]'(by omega) := by simp [rd, List.getD_eq_getElem?_getD, List.getElem?_eq_getElem (show i.toNat < B.length by omega)]
    rw [this]
    exact hBb _ (List.getElem_mem _)
  have h0 := Aside0.mk (show w.cell? ad = some (.int .u8 (rd B 0)) by have h := hx 0 (by omega) (by omega); rwa [show (0 : Int).toNat = 0 from rfl, Addr_add_zero] at h)
  have h1 := Aside0.mk (show w.cell? ⟨ad.block, ad.off + 1, none⟩ = some (.int .u8 (rd B 1)) from hx 1 (by omega) (by omega))
  have h2 := Aside0.mk (show w.cell? ⟨ad.block, ad.off + 2, none⟩ = some (.int .u8 (rd B 2)) from hx 2 (by omega) (by omega))
  have h3 := Aside0.mk (show w.cell? ⟨ad.block, ad.off + 3, none⟩ = some (.int .u8 (rd B 3)) from hx 3 (by omega) (by omega))
  have b2 := hrr 2 (by omega) (by omega)
  have b3 := hrr 3 (by omega) (by omega)
  obtain ⟨n, hn⟩ : ∃ n, n = lenF B := ⟨_, rfl⟩
  have hn0 : 0 ≤ n := by rw [hn]; unfold lenF; omega
  have hwk1 : IntKind.i64.wrap (256 * k) = 256 * k := (i64_w _).trans (by unfold wrap64; omega)
  have hwk2 : IntKind.i64.wrap (256 * k + 256) = 256 * k + 256 := (i64_w _).trans (by unfold wrap64; omega)
  have hwn : IntKind.i64.wrap (IntKind.i64.wrap (256 * IntKind.i64.wrap (rd B 2)) + IntKind.i64.wrap (rd B 3)) = n := by
    have e : ∀ x : Int, 0 ≤ x → x < 1000000 → IntKind.i64.wrap x = x := fun x h1 h2 => (i64_w _).trans (by unfold wrap64; omega)
    rw [e (rd B 2) (by omega) (by omega), e (rd B 3) (by omega) (by omega), e (256 * rd B 2) (by omega) (by omega), e _ (by omega) (by omega), hn]
    unfold lenF
    omega
  have HC256 := Aside0.mk (show 256 ≤ c by omega)
  have HCB := Aside0.mk hcB
  have HBB := Aside0.mk hBb
  have HBL := Aside0.mk hBl
  unfold bankR at hR
  rw [← hn] at hR
  have HRR := Aside0.mk hR
  have hc00 : w.cell? ad = some (.int .u8 (rd B 0)) := h0.out
  clear hR hn b2 b3 hrr hx hcB hcc had hBb hBl hB hl hb0
  go_enter Tryd.func74, Tryd.ntmps74
  go_wp2
  refine start_ (n := 11) (S := fun w' => w'.cell? ⟨ad.block, ad.off + 2, none⟩ = some (.int .u8 (rd B 2)) ∧ w'.cell? ⟨ad.block, ad.off + 3, none⟩ = some (.int .u8 (rd B 3))) (ds := []) #[false, false, false, false, false, false, false, false, false, false, false] (by kernel_rfl) rfl rfl ⟨h2.out, h3.out⟩ (fun hHeld => ?_)
  refine pure_ (i := 0) (N := some 19) (v := ?_) (a' := ?_) #[true, false, false, false, false, false, false, false, false, false, false] rfl rfl (by kernel_rfl) (fun _ _ _ h => h) (Or.inl ⟨by rfl, ?_⟩) ?_ ?_
  rotate_left
  · intro w'
    go_simp
    with_reducible rfl
  rotate_left
  · simp only [Act.put, List.setIfInBounds_toArray, List.set_cons_zero, List.set_cons_succ]
    rfl
  refine pure_ (i := 1) (N := some 20) (v := ?_) (a' := ?_) #[true, true, false, false, false, false, false, false, false, false, false] rfl rfl (by kernel_rfl) (fun _ _ _ h => h) (Or.inl ⟨by rfl, ?_⟩) ?_ ?_
  rotate_left
  · intro w'
    go_simp
    with_reducible rfl
  rotate_left
  · simp only [Act.put, List.setIfInBounds_toArray, List.set_cons_zero, List.set_cons_succ]
    rfl
  refine take_ (i := 2) (N := some 21) (v := .int .u8 (rd B 2)) (a' := ?_) #[true, true, true, false, false, false, false, false, false, false, false] rfl rfl (by kernel_rfl) (fun _ _ _ h => h) (Or.inl ⟨by rfl, ?_⟩) hHeld ?_ ?_
  rotate_left
  rotate_left
  · simp only [Act.put, List.setIfInBounds_toArray, List.set_cons_zero, List.set_cons_succ]
    rfl
  rotate_left
  · rintro w' ⟨s0, s1⟩
    go_simp
  refine pure_ (i := 3) (N := some 22) (v := ?_) (a' := ?_) #[true, true, true, true, false, false, false, false, false, false, false] rfl rfl (by kernel_rfl) (fun _ _ _ h => h) (Or.inl ⟨by rfl, ?_⟩) ?_ ?_
  rotate_left
  · intro w'
    go_simp
    with_reducible rfl
  rotate_left
  · simp only [Act.put, List.setIfInBounds_toArray, List.set_cons_zero, List.set_cons_succ]
    rfl
  refine pure_ (i := 4) (N := some 23) (v := ?_) (a' := ?_) #[true, true, true, true, true, false, false, false, false, false, false] rfl rfl (by kernel_rfl) (fun _ _ _ h => h) (Or.inl ⟨by rfl, ?_⟩) ?_ ?_
  rotate_left
  · intro w'
    go_simp
    with_reducible rfl
  rotate_left
  · simp only [Act.put, List.setIfInBounds_toArray, List.set_cons_zero, List.set_cons_succ]
    rfl
  refine pure_ (i := 5) (N := some 24) (v := ?_) (a' := ?_) #[true, true, true, true, true, true, false, false, false, false, false] rfl rfl (by kernel_rfl) (fun _ _ _ h => h) (Or.inl ⟨by rfl, ?_⟩) ?_ ?_
  rotate_left
  · intro w'
    go_simp
    with_reducible rfl
  rotate_left
  · simp only [Act.put, List.setIfInBounds_toArray, List.set_cons_zero, List.set_cons_succ]
    rfl
  refine pure_ (i := 6) (N := some 25) (v := ?_) (a' := ?_) #[true, true, true, true, true, true, true, false, false, false, false] rfl rfl (by kernel_rfl) (fun _ _ _ h => h) (Or.inl ⟨by rfl, ?_⟩) ?_ ?_
  rotate_left
  · intro w'
    go_simp
    with_reducible rfl
  rotate_left
  · simp only [Act.put, List.setIfInBounds_toArray, List.set_cons_zero, List.set_cons_succ]
    rfl
  refine take_ (i := 7) (N := some 26) (v := .int .u8 (rd B 3)) (a' := ?_) #[true, true, true, true, true, true, true, true, false, false, false] rfl rfl (by kernel_rfl) (fun _ _ _ h => h) (Or.inl ⟨by rfl, ?_⟩) hHeld ?_ ?_
  rotate_left
  rotate_left
  · simp only [Act.put, List.setIfInBounds_toArray, List.set_cons_zero, List.set_cons_succ]
    rfl
  rotate_left
  · rintro w' ⟨s0, s1⟩
    go_simp
  refine pure_ (i := 8) (N := some 27) (v := ?_) (a' := ?_) #[true, true, true, true, true, true, true, true, true, false, false] rfl rfl (by kernel_rfl) (fun _ _ _ h => h) (Or.inl ⟨by rfl, ?_⟩) ?_ ?_
  rotate_left
  · intro w'
    go_simp
    with_reducible rfl
  rotate_left
  · simp only [Act.put, List.setIfInBounds_toArray, List.set_cons_zero, List.set_cons_succ]
    rfl
  refine pure_ (i := 9) (N := some 28) (v := ?_) (a' := ?_) #[true, true, true, true, true, true, true, true, true, true, false] rfl rfl (by kernel_rfl) (fun _ _ _ h => h) (Or.inl ⟨by rfl, ?_⟩) ?_ ?_
  rotate_left
  · intro w'
    go_simp
    with_reducible rfl
  rotate_left
  · simp only [Act.put, List.setIfInBounds_toArray, List.set_cons_zero, List.set_cons_succ]
    rfl
  refine pure_ (i := 10) (N := some 8) (v := ?_) (a' := ?_) #[true, true, true, true, true, true, true, true, true, true, true] rfl rfl (by kernel_rfl) (fun _ _ _ h => h) (Or.inl ⟨by rfl, ?_⟩) ?_ ?_
  rotate_left
  · intro w'
    go_simp
    with_reducible rfl
  rotate_left
  · simp only [Act.put, List.setIfInBounds_toArray, List.set_cons_zero, List.set_cons_succ]
    rfl
  refine done_ (n := 0) (by kernel_rfl) ?_
  by_cases c0' : rd B 0 = 165
  · have d0 : (rd B 0 != 165) = false := by simp [c0']
    by_cases c1' : n ≤ 248
    · have d1 : decide (248 < n) = false := decide_eq_false (by omega)
      have e8 : IntKind.i64.wrap (8 + n) = 8 + n := (i64_w _).trans (by unfold wrap64; omega)
      have hR := HRR.out
      rw [if_pos ⟨c0', c1'⟩] at hR
      obtain ⟨d, hd⟩ : ∃ d, d = (B.drop 8).take n.toNat := ⟨_, rfl⟩
      rw [← hd] at hR
      have HR := Aside0.mk hR
      have hdl : d.length = n.toNat := by rw [hd, List.length_take, List.length_drop]; have := HBL.out; omega
      have HDL := Aside0.mk hdl
      have HN := Aside0.mk c1'
      have hcut4 : ∀ W : World, (Instr.slice 42 (.slice (some ad) 256 c) (some (.int .i64 4)) none none).run Tryd.prog W = .ok (.slice (some (ad.add 4)) 252 (c - 4)) W := fun W => by
        rw [run_cut_lo (P := Tryd.prog) (sz := 1) Tryd.underlying42 (by kernel_rfl) (some ad) 256 c 4 (by omega) (by omega)]
        unfold cutAt
        rw [if_neg (by have := HC256.out; omega)]
        rfl
      have hcut8 : ∀ W : World, (Instr.slice 42 (.slice (some ad) 256 c) (some (.int .i64 8)) (some (.int .i64 (8 + n))) none).run Tryd.prog W = .ok (.slice (some (ad.add 8)) n.toNat (c - 8)) W := fun W => by
        rw [run_cut_lohi (P := Tryd.prog) (sz := 1) Tryd.underlying42 (by kernel_rfl) (some ad) 256 c 8 (8 + n) (by omega) (by omega) (by have := HC256.out; omega)]
        unfold cutAt
        rw [if_neg (by have := HC256.out; omega), show (8 + n).toNat - (8 : Int).toNat = n.toNat by omega]
        rfl
      have HC4 := Aside0.mk (show Kd.C (Kd.int .u8) w (some (ad.add 4)) 252 (B.drop 4) from by
        have h := C_cut HCB.out HC256.out 4 252 (by omega)
        unfold cutAt at h
        rw [if_neg (by have := HC256.out; omega), List.take_of_length_le (by rw [List.length_drop]; have := HBL.out; omega)] at h
        exact h)
      have HC8 := Aside0.mk (show Kd.C (Kd.int .u8) w (some (ad.add 8)) n.toNat d from by
        have h := C_cut HCB.out HC256.out 8 n.toNat (by omega)
        unfold cutAt at h
        rw [if_neg (by have := HC256.out; omega), ← hd] at h
        exact h)
      have HDe := Aside0.mk (show ∀ W : World, Kd.C (Kd.int .u8) W (some (ad.add 4)) 252 (B.drop 4) → Calls Tryd.prog 85 #[.slice (some (ad.add 4)) 252 (c - 4)] W (fun e w' => ∃ v : Value, e = .returned (.tuple #[.int .u32 (beF (B.drop 4)), v, .int .i64 0]) ∧ Below W.heap.size W w') from fun W h => by
        have hl4 : (B.drop 4).length = 252 := by rw [List.length_drop]; have := HBL.out; omega
        have h' := decode_calls (some (ad.add 4)) (c - 4) (B.drop 4) W (by rw [hl4]; exact h) (by rw [hl4]; have := HC256.out; omega) (by omega)
        rw [hl4] at h'
        exact h')
      have HSum := Aside0.mk (show ∀ W : World, Kd.C (Kd.int .u8) W (some (ad.add 8)) n.toNat d → Calls Tryd.prog 72 #[.int .u8 (rd B 1), .slice (some (ad.add 8)) n.toNat (c - 8)] W (fun e w' => e = .returned (.int .u32 (sumF (rd B 1) d)) ∧ Below W.heap.size W w') from fun W h => by
        have hbd : nv_Bytes d := by rw [hd]; exact (HBB.out.drop _).take _
        have hb1 : 0 ≤ rd B 1 ∧ rd B 1 < 256 := by
          have hl := HBL.out
          have : rd B 1 = B[1]'(by omega) := by simp [rd, List.getD_eq_getElem?_getD, List.getElem?_eq_getElem (show 1 < B.length by omega)]
          rw [this]
          exact HBB.out _ (List.getElem_mem _)
        rw [← hdl] at h ⊢
        exact tinderref18_Sum.calls (d.length + 10) _ _ _ _ _ _ h (by have := HC256.out; omega) (ref18_Sum_eq _ _ _ hb1 hbd (by omega) (by omega)))
      clear c0' c1' hR hd hdl
      go_wp2_with (first
        | (go_at_call 85; refine (HDe.out _ (Kd.C_drew HC4.out)).mono ?_; rintro e w1 ⟨v, rfl, hb⟩; have HB1 := Aside0.mk (below_step (below_drew (Below.refl _ _)) hb); clear hb hc00))
      have hc1 := (HB1.out.cell (World.block_lt_of_cell? w _ h1.out)).trans h1.out
      refine start_ (n := 20) (S := fun w' => w'.cell? ⟨ad.block, ad.off + 1, none⟩ = some (.int .u8 (rd B 1))) (ds := []) #[false, false, false, false, false, false, false, false, false, false, false, false, false, false, false, false, false, false, false, false] (by kernel_rfl) rfl rfl hc1 (fun hHeld => ?_)
      refine pure_ (i := 0) (N := some 44) (v := ?_) (a' := ?_) #[true, false, false, false, false, false, false, false, false, false, false, false, false, false, false, false, false, false, false, false] rfl rfl (by kernel_rfl) (fun _ _ _ h => h) (Or.inl ⟨by rfl, ?_⟩) ?_ ?_
      rotate_left
      · intro w'
        go_simp
        with_reducible rfl
      rotate_left
      · simp only [Act.put, List.setIfInBounds_toArray, List.set_cons_zero, List.set_cons_succ]
        rfl
      refine pure_ (i := 1) (N := some 45) (v := ?_) (a' := ?_) #[true, true, false, false, false, false, false, false, false, false, false, false, false, false, false, false, false, false, false, false] rfl rfl (by kernel_rfl) (fun _ _ _ h => h) (Or.inl ⟨by rfl, ?_⟩) ?_ ?_
      rotate_left
      · intro w'
        go_simp
        with_reducible rfl
      rotate_left
      · simp only [Act.put, List.setIfInBounds_toArray, List.set_cons_zero, List.set_cons_succ]
        rfl
      refine take_ (i := 2) (N := some 46) (v := .int .u8 (rd B 1)) (a' := ?_) #[true, true, true, false, false, false, false, false, false, false, false, false, false, false, false, false, false, false, false, false] rfl rfl (by kernel_rfl) (fun _ _ _ h => h) (Or.inl ⟨by rfl, ?_⟩) hHeld ?_ ?_
      rotate_left
      rotate_left
      · simp only [Act.put, List.setIfInBounds_toArray, List.set_cons_zero, List.set_cons_succ]
        rfl
      rotate_left
      · rintro w' s0
        go_simp
      refine pure_ (i := 3) (N := some 47) (v := ?_) (a' := ?_) #[true, true, true, true, false, false, false, false, false, false, false, false, false, false, false, false, false, false, false, false] rfl rfl (by kernel_rfl) (fun _ _ _ h => h) (Or.inl ⟨by rfl, ?_⟩) ?_ ?_
      rotate_left
      · intro w'
        go_simp
        with_reducible rfl
      rotate_left
      · simp only [Act.put, List.setIfInBounds_toArray, List.set_cons_zero, List.set_cons_succ]
        rfl
      refine pure_ (i := 4) (N := some 48) (v := ?_) (a' := ?_) #[true, true, true, true, true, false, false, false, false, false, false, false, false, false, false, false, false, false, false, false] rfl rfl (by kernel_rfl) (fun _ _ _ h => h) (Or.inl ⟨by rfl, ?_⟩) ?_ ?_
      rotate_left
      · intro w'
        go_simp
        with_reducible rfl
      rotate_left
      · simp only [Act.put, List.setIfInBounds_toArray, List.set_cons_zero, List.set_cons_succ]
        rfl
      refine pure_ (i := 5) (N := some 49) (v := ?_) (a' := ?_) #[true, true, true, true, true, true, false, false, false, false, false, false, false, false, false, false, false, false, false, false] rfl rfl (by kernel_rfl) (fun _ _ _ h => h) (Or.inl ⟨by rfl, ?_⟩) ?_ ?_
      rotate_left
      · intro w'
        go_simp
        with_reducible rfl
      rotate_left
      · simp only [Act.put, List.setIfInBounds_toArray, List.set_cons_zero, List.set_cons_succ]
        rfl
      refine pure_ (i := 6) (N := some 50) (v := ?_) (a' := ?_) #[true, true, true, true, true, true, true, false, false, false, false, false, false, false, false, false, false, false, false, false] rfl rfl (by kernel_rfl) (fun _ _ _ h => h) (Or.inl ⟨by rfl, ?_⟩) ?_ ?_
      rotate_left
      · intro w'
        go_simp
        with_reducible rfl
      rotate_left
      · simp only [Act.put, List.setIfInBounds_toArray, List.set_cons_zero, List.set_cons_succ]
        rfl
      refine pure_ (i := 7) (N := some 51) (v := ?_) (a' := ?_) #[true, true, true, true, true, true, true, true, false, false, false, false, false, false, false, false, false, false, false, false] rfl rfl (by kernel_rfl) (fun _ _ _ h => h) (Or.inl ⟨by rfl, ?_⟩) ?_ ?_
      rotate_left
      · intro w'
        go_simp
        with_reducible rfl
      rotate_left
      · simp only [Act.put, List.setIfInBounds_toArray, List.set_cons_zero, List.set_cons_succ]
        rfl
      refine pure_ (i := 8) (N := some 52) (v := ?_) (a' := ?_) #[true, true, true, true, true, true, true, true, true, false, false, false, false, false, false, false, false, false, false, false] rfl rfl (by kernel_rfl) (fun _ _ _ h => h) (Or.inl ⟨by rfl, ?_⟩) ?_ ?_
      rotate_left
      · intro w'
        go_simp
        with_reducible rfl
      rotate_left
      · simp only [Act.put, List.setIfInBounds_toArray, List.set_cons_zero, List.set_cons_succ]
        rfl
      refine pure_ (i := 9) (N := some 53) (v := ?_) (a' := ?_) #[true, true, true, true, true, true, true, true, true, true, false, false, false, false, false, false, false, false, false, false] rfl rfl (by kernel_rfl) (fun _ _ _ h => h) (Or.inl ⟨by rfl, ?_⟩) ?_ ?_
      rotate_left
      · intro w'
        go_simp
        with_reducible rfl
      rotate_left
      · simp only [Act.put, List.setIfInBounds_toArray, List.set_cons_zero, List.set_cons_succ]
        rfl
      refine take_ (i := 10) (N := some 54) (v := .int .u8 (rd B 1)) (a' := ?_) #[true, true, true, true, true, true, true, true, true, true, true, false, false, false, false, false, false, false, false, false] rfl rfl (by kernel_rfl) (fun _ _ _ h => h) (Or.inl ⟨by rfl, ?_⟩) hHeld ?_ ?_
      rotate_left
      rotate_left
      · simp only [Act.put, List.setIfInBounds_toArray, List.set_cons_zero, List.set_cons_succ]
        rfl
      rotate_left
      · rintro w' s0
        go_simp
      refine pure_ (i := 11) (N := some 55) (v := ?_) (a' := ?_) #[true, true, true, true, true, true, true, true, true, true, true, true, false, false, false, false, false, false, false, false] rfl rfl (by kernel_rfl) (fun _ _ _ h => h) (Or.inl ⟨by rfl, ?_⟩) ?_ ?_
      rotate_left
      · intro w'
        go_simp
        with_reducible rfl
      rotate_left
      · simp only [Act.put, List.setIfInBounds_toArray, List.set_cons_zero, List.set_cons_succ]
        rfl
      refine pure_ (i := 12) (N := some 56) (v := ?_) (a' := ?_) #[true, true, true, true, true, true, true, true, true, true, true, true, true, false, false, false, false, false, false, false] rfl rfl (by kernel_rfl) (fun _ _ _ h => h) (Or.inl ⟨by rfl, ?_⟩) ?_ ?_
      rotate_left
      · intro w'
        go_simp
        with_reducible rfl
      rotate_left
      · simp only [Act.put, List.setIfInBounds_toArray, List.set_cons_zero, List.set_cons_succ]
        rfl
      refine pure_ (i := 13) (N := some 57) (v := ?_) (a' := ?_) #[true, true, true, true, true, true, true, true, true, true, true, true, true, true, false, false, false, false, false, false] rfl rfl (by kernel_rfl) (fun _ _ _ h => h) (Or.inl ⟨by rfl, ?_⟩) ?_ ?_
      rotate_left
      · intro w'
        go_simp
        with_reducible rfl
      rotate_left
      · simp only [Act.put, List.setIfInBounds_toArray, List.set_cons_zero, List.set_cons_succ]
        rfl
      refine pure_ (i := 14) (N := some 58) (v := ?_) (a' := ?_) #[true, true, true, true, true, true, true, true, true, true, true, true, true, true, true, false, false, false, false, false] rfl rfl (by kernel_rfl) (fun _ _ _ h => h) (Or.inl ⟨by rfl, ?_⟩) ?_ ?_
      rotate_left
      · intro w'
        go_simp
        with_reducible rfl
      rotate_left
      · simp only [Act.put, List.setIfInBounds_toArray, List.set_cons_zero, List.set_cons_succ]
        rfl
      refine one_ (i := 15) (N := some 59) #[true, true, true, true, true, true, true, true, true, true, true, true, true, true, true, true, false, false, false, false] rfl rfl (by kernel_rfl) (by decide) (fun K hK => ?_)
      refine goes_ Tryd.func72 (by kernel_rfl) rfl #[.int .u8 (rd B 1), .slice (some (ad.add 8)) n.toNat (c - 8)] (by rfl) rfl rfl (by first | rfl | (simp only [List.map_toArray, List.map_cons, List.map_nil]; rfl)) ?_
      refine (HSum.out _ (Kd.C_below HC8.out (below_drew HB1.out))).mono ?_
      rintro e w2 ⟨rfl, hb⟩
      have HB2 := Aside0.mk (below_step (below_drew HB1.out) hb)
      refine ⟨_, rfl, hK.out _ _ ((HB2.out.cell (World.block_lt_of_cell? w _ h1.out)).trans h1.out) (fun hHeld => ?_)⟩
      clear hb
      clear hK K
      simp only [Act.put, List.setIfInBounds_toArray, List.set_cons_zero, List.set_cons_succ]
      refine pure_ (i := 16) (N := some 60) (v := ?_) (a' := ?_) #[true, true, true, true, true, true, true, true, true, true, true, true, true, true, true, true, true, false, false, false] rfl rfl (by kernel_rfl) (fun _ _ _ h => h) (Or.inl ⟨by rfl, ?_⟩) ?_ ?_
      rotate_left
      · intro w'
        go_simp
        with_reducible rfl
      rotate_left
      · simp only [Act.put, List.setIfInBounds_toArray, List.set_cons_zero, List.set_cons_succ]
        rfl
      refine pure_ (i := 17) (N := some 4) (v := ?_) (a' := ?_) #[true, true, true, true, true, true, true, true, true, true, true, true, true, true, true, true, true, true, false, false] rfl rfl (by kernel_rfl) (fun _ _ _ h => h) (Or.inl ⟨by rfl, ?_⟩) ?_ ?_
      rotate_left
      · intro w'
        go_simp
        with_reducible rfl
      rotate_left
      · simp only [Act.put, List.setIfInBounds_toArray, List.set_cons_zero, List.set_cons_succ]
        rfl
      refine pure_ (i := 18) (N := some 5) (v := ?_) (a' := ?_) #[true, true, true, true, true, true, true, true, true, true, true, true, true, true, true, true, true, true, true, false] rfl rfl (by kernel_rfl) (fun _ _ _ h => h) (Or.inl ⟨by rfl, ?_⟩) ?_ ?_
      rotate_left
      · intro w'
        go_simp
        with_reducible rfl
      rotate_left
      · simp only [Act.put, List.setIfInBounds_toArray, List.set_cons_zero, List.set_cons_succ]
        rfl
      refine pure_ (i := 19) (N := some 6) (v := ?_) (a' := ?_) #[true, true, true, true, true, true, true, true, true, true, true, true, true, true, true, true, true, true, true, true] rfl rfl (by kernel_rfl) (fun _ _ _ h => h) (Or.inl ⟨by rfl, ?_⟩) ?_ ?_
      rotate_left
      · intro w'
        go_simp
        with_reducible rfl
      rotate_left
      · simp only [Act.put, List.setIfInBounds_toArray, List.set_cons_zero, List.set_cons_succ]
        rfl
      refine done_ (n := 0) (by kernel_rfl) ?_
      go_wp2
      go_ret3
      rw [HR.out]
      refine ⟨some (ad.add 8), c - 8, by rw [show (rd B 1, d, beF (B.drop 4) == sumF (rd B 1) d).2.1.length = n.toNat from HDL.out]; rfl, ?_, ?_, HB2.out⟩
      · rw [show (rd B 1, d, beF (B.drop 4) == sumF (rd B 1) d).2.1.length = n.toNat from HDL.out]
        exact HC8.out
      · show d.length ≤ c - 8
        have := HDL.out
        have := HN.out
        have := HC256.out
        omega
    · have d1 : decide (248 < n) = true := decide_eq_true (by omega)
      have hR := HRR.out
      rw [if_neg (fun x => c1' x.2)] at hR
      have HR := Aside0.mk hR
      clear c0' c1' hR
      go_wp2
      go_ret3
      rw [HR.out]
      exact ⟨none, 0, rfl, Kd.C_nil _ _, by simp, below_drew (Below.refl _ _)⟩
  · have d0 : (rd B 0 != 165) = true := by simp [c0']
    have hR := HRR.out
    rw [if_neg (fun x => c0' x.1)] at hR
    have HR := Aside0.mk hR
    clear c0' hR
    go_wp2
    go_ret3
    rw [HR.out]
    exact ⟨none, 0, rfl, Kd.C_nil _ _, by simp, below_drew (Below.refl _ _)⟩
end Go.Proofs.YtefhngadeimklaaDoor.Q
end
section
namespace Go.Proofs.YtefhngadeimklaaDoor.Q
open Go.RowKit Go.Proofs.YtefhngadeimklaaDoorW.PrintWords Go.Proofs.YtefhngadeimklaaDoorW.PrintLast Go.Proofs.YtefhngadeimklaaDoorW.PrintMore
def bytesB (l : List Int) : Bool := l.all (fun a => decide (0 ≤ a) && decide (a < 256))
theorem bytesB_iff {l : List Int} : bytesB l = true ↔ nv_Bytes l := by
  unfold bytesB nv_Bytes
  rw [List.all_eq_true]
  constructor
  · intro h a ha
    have := h a ha
    simp at this
    exact this
  · intro h a ha
    have := h a ha
    simp [this]
/-- What nvram.Recover answers. -/
def nvram_Recover.f (l0 : List Int) : Option (List Int × Int × Bool) := if bytesB l0 = true then some (recF l0) else none
theorem nvram_Recover.calls (A0 : Option Addr) (c0 : Nat) (l0 : List Int) (r1 : List Int) (r2 : Int) (r3 : Bool) (w : World) (hr0 : Kd.C (Kd.int .u8) w A0 l0.length l0) (hc0 : l0.length ≤ c0) (h : nvram_Recover.f l0 = some (r1, r2, r3)) :
    Calls Tryd.prog 55 #[.slice A0 l0.length c0] w fun e w' => ∃ v0_ : Value, e = .returned (.tuple #[v0_, .int .i64 r2, .bool r3]) ∧ Kd.R (Kd.int .u8) 5 w' w.heap.size (fun _ => True) v0_ r1 ∧ Below w.heap.size w w' := by
  unfold nvram_Recover.f at h
  split at h
  · rename_i hb
    have e := Option.some.inj h
    have h2 := recover_calls A0 c0 l0 w hr0 hc0 (bytesB_iff.1 hb)
    rw [e] at h2
    exact h2
  · cases h
end Go.Proofs.YtefhngadeimklaaDoor.Q
end
section
namespace Go.Proofs.YtefhngadeimklaaDoor.Q
open Go.RowKit Go.Proofs.YtefhngadeimklaaDoorW.PrintWords Go.Proofs.YtefhngadeimklaaDoorW.PrintLast Go.Proofs.YtefhngadeimklaaDoorW.PrintMore
set_option linter.unusedVariables false
set_option linter.unusedSimpArgs false

attribute [local go_sem] max2_int min2_int max_two min_two max_three min_three max_four min_four
/-! ### tinderref04_Copy: function 75 -/
def tinderref04_Copy.f (l0 : List Int) : Option (List Int) := if ([] : List Int).length + l0.length < 140737488355328 then (some (([] : List Int) ++ l0)) else (none)
set_option maxHeartbeats 8000000 in
set_option maxRecDepth 100000 in
theorem tinderref04_Copy.calls (A0 : Option Addr) (c0 : Nat) (l0 : List Int) (r : List Int) (w : World) (hr0 : Kd.C (Kd.int .u8) w A0 l0.length l0) (hc0 : l0.length ≤ c0) (h : tinderref04_Copy.f l0 = some r) :
    Calls Tryd.prog 75 #[.slice A0 l0.length c0] w fun e w' => ∃ v0_ : Value, e = .returned (v0_) ∧ Kd.R (Kd.int .u8) 5 w' w.heap.size (fun _ => True) v0_ r ∧ Below w.heap.size w w' := by
  have HR0 := Aside0.mk hr0
  have HC0 := Aside0.mk hc0
  clear hr0 hc0
  have HB := Aside0.mk (Below.refl w.heap.size w)
  have H : (if ([] : List Int).length + l0.length < 140737488355328 then (some (([] : List Int) ++ l0)) else (none)) = some r := h
  clear h
  by_cases c2 : ([] : List Int).length + l0.length < 140737488355328
  · rw [if_pos c2] at H
    have LMc2 := Aside0.mk c2
    clear c2
    obtain ⟨y76001, hy76001⟩ : ∃ y_ : List Int, y_ = (([] : List Int) ++ l0) := ⟨_, rfl⟩
    replace H : (some y76001) = some r := by first | (rw [hy76001]; with_reducible exact H) | (have H2_ := (Option.bind_some _ _).symm.trans H; rw [hy76001]; with_reducible exact H2_) | (have H2_ := (Option.bind_some _ _).symm.trans H; with_reducible exact H2_) | with_reducible exact H | (rw [hy76001]; exact H) | exact H
    have Ny76001 := Aside0.mk hy76001
    clear hy76001
    obtain rfl := Option.some.inj H
    go_enter Tryd.func75, Tryd.ntmps75
    go_wp2_with (first | ((with_reducible refine gate_builtin (b := .append) (xs := #[.tmp 4, .tmp 5]) rfl ?_); at_builtin; refine Kd.R_append_rows (Kd.int .u8) (w0 := w) w.heap.size rfl (.tmp 4) (.tmp 5) 42 5 (.int .u8 0) 1 rfl Tryd.underlying42 info5 rfl (by decide) (by omega) (.slice none 0 0) ([] : List Int) l0 _ _ _ (fun _ => True) (fun _ => False) rfl rfl ?aO ?aR (fun _ _ h => h) (fun _ h => h.elim) ?aF ?aB ?aS ?aL ?_; (case aR => repeat (first | exact HR0.out | (with_reducible refine Kd.C_alloc ?_ _) | (with_reducible refine Kd.C_drewN ?_ _) | (with_reducible refine Kd.C_drew ?_))); (case aB => exact (by repeat (first | (with_reducible first | exact HB.out | apply below_alloc | apply pw_below_drewN | apply below_drew1) | exact HB.out))); (case aF => exact (fun _ _ => trivial)); (case aO => exact ((Kd.R_nil _ _ _ _ (fun _ => True)))); (case aS => exact (below_size (by repeat (first | (with_reducible first | exact HB.out | apply below_alloc | apply pw_below_drewN | apply below_drew1) | exact HB.out)))); (case aL => have := LMc2.out; omega); intro v76002 w3 ho hb hg hat; rw [← Ny76001.out] at ho; have n0_ := Aside0.mk (hb); have n1_ := Aside0.mk (ho); clear HB; have HB := n0_; have HO76003 := n1_; clear n0_ n1_; clear ho hb hg hat))
    go_ret
    exact ⟨_, by first | rfl | (simp [errW_none, errW_some] <;> rfl) | (simp [*, errW_none, errW_some] <;> rfl), by (with_reducible repeat (first | apply Kd.R_alloc | apply Kd.R_drewN | apply Kd.R_drew)); exact HO76003.out, by repeat (first | (with_reducible first | exact HB.out | apply below_alloc | apply pw_below_drewN | apply below_drew1) | exact HB.out)⟩
  · rw [if_neg c2] at H
    exact absurd H (by simp)

end Go.Proofs.YtefhngadeimklaaDoor.Q
end
section
namespace Go.Proofs.YtefhngadeimklaaDoor.Q
open Go.RowKit Go.Proofs.YtefhngadeimklaaDoorW.PrintWords Go.Proofs.YtefhngadeimklaaDoorW.PrintLast Go.Proofs.YtefhngadeimklaaDoorW.PrintMore
def countsR (nv : List Int) : Int × Int :=
  if (bankR (bankF nv 0)).2.2 = true ∧ (bankR (bankF nv 1)).2.2 = true ∧ (bankR (bankF nv 1)).1 = ((bankR (bankF nv 0)).1 + 1) % 256 then (1, (bankR (bankF nv 1)).1)
  else if (bankR (bankF nv 0)).2.2 = true then (0, (bankR (bankF nv 0)).1) else if (bankR (bankF nv 1)).2.2 = true then (1, (bankR (bankF nv 1)).1) else (-1, 0)
/-- What the reference's Counts answers. -/
def tinderref18_Counts.f (l0 : List Int) : Option (Int × Int) := if l0.length = 512 ∧ bytesB l0 = true then some (countsR l0) else none
set_option maxHeartbeats 4000000 in
set_option maxRecDepth 100000 in
theorem tinderref18_Counts.calls (A0 : Option Addr) (c0 : Nat) (l0 : List Int) (r1 r2 : Int) (w : World) (hr0 : Kd.C (Kd.int .u8) w A0 l0.length l0) (hc0 : l0.length ≤ c0) (h : tinderref18_Counts.f l0 = some (r1, r2)) :
    Calls Tryd.prog 70 #[.slice A0 l0.length c0] w fun e w' => e = .returned (.tuple #[.int .i64 r1, .int .u8 r2]) ∧ Below w.heap.size w w' := by
  unfold tinderref18_Counts.f at h
  split at h
  case isFalse => cases h
  rename_i hh
  obtain ⟨hl, hb⟩ := hh
  have hR := Option.some.inj h
  unfold countsR at hR
  have hbb := bytesB_iff.1 hb
  rw [hl] at hr0 hc0 ⊢
  obtain ⟨g0, hg0⟩ : ∃ g, g = (bankR (bankF l0 0)).1 := ⟨_, rfl⟩
  obtain ⟨g1, hg1⟩ : ∃ g, g = (bankR (bankF l0 1)).1 := ⟨_, rfl⟩
  obtain ⟨x, hx⟩ : ∃ x, x = (bankR (bankF l0 0)).2.2 := ⟨_, rfl⟩
  obtain ⟨y, hy⟩ : ∃ y, y = (bankR (bankF l0 1)).2.2 := ⟨_, rfl⟩
  rw [← hg0, ← hg1, ← hx, ← hy] at hR
  have H0 := Aside0.mk (show Calls Tryd.prog 74 #[.slice A0 512 c0, .int .i64 0] w (fun e w' => ∃ v : Value, e = .returned (.tuple #[.int .u8 g0, v, .bool x]) ∧ Below w.heap.size w w') from by
    rw [hg0, hx]
    refine (bank_calls A0 c0 l0 0 w (.inl rfl) hr0 hc0 hbb).mono ?_
    rintro e w' ⟨A, c, rfl, -, -, hb⟩
    exact ⟨_, rfl, hb⟩)
  have H1 := Aside0.mk (show ∀ W : World, Kd.C (Kd.int .u8) W A0 512 l0 → Calls Tryd.prog 74 #[.slice A0 512 c0, .int .i64 1] W (fun e w' => ∃ v : Value, e = .returned (.tuple #[.int .u8 g1, v, .bool y]) ∧ Below W.heap.size W w') from fun W h => by
    rw [hg1, hy]
    refine (bank_calls A0 c0 l0 1 W (.inr rfl) h hc0 hbb).mono ?_
    rintro e w' ⟨A, c, rfl, -, -, hb⟩
    exact ⟨_, rfl, hb⟩)
  have HR0 := Aside0.mk hr0
  have HRR := Aside0.mk hR
  clear h hl hb hR hbb hr0 hc0 hg0 hg1 hx hy
  cases x
  · cases y
    · go_enter Tryd.func70, Tryd.ntmps70
      go_wp2_with (first
        | (go_at_call 74; (with_reducible refine H0.out.mono ?_); rintro e w1 ⟨va, rfl, hb⟩; have HB := Aside0.mk (below_step (Below.refl _ _) hb); clear hb)
        | (go_at_call 74; (with_reducible refine (H1.out _ ?cb).mono ?_); (case cb => exact Kd.C_below HR0.out HB.out); rintro e w2 ⟨vb, rfl, hb⟩; have HB2 := Aside0.mk (below_step HB.out hb); clear hb HB))
      go_ret2
      have hR := HRR.out
      simp  at hR
      obtain ⟨rfl, rfl⟩ := hR
      exact ⟨rfl, HB2.out⟩
    · go_enter Tryd.func70, Tryd.ntmps70
      go_wp2_with (first
        | (go_at_call 74; (with_reducible refine H0.out.mono ?_); rintro e w1 ⟨va, rfl, hb⟩; have HB := Aside0.mk (below_step (Below.refl _ _) hb); clear hb)
        | (go_at_call 74; (with_reducible refine (H1.out _ ?cb).mono ?_); (case cb => exact Kd.C_below HR0.out HB.out); rintro e w2 ⟨vb, rfl, hb⟩; have HB2 := Aside0.mk (below_step HB.out hb); clear hb HB))
      go_ret2
      have hR := HRR.out
      simp  at hR
      obtain ⟨rfl, rfl⟩ := hR
      exact ⟨rfl, HB2.out⟩
  · cases y
    · go_enter Tryd.func70, Tryd.ntmps70
      go_wp2_with (first
        | (go_at_call 74; (with_reducible refine H0.out.mono ?_); rintro e w1 ⟨va, rfl, hb⟩; have HB := Aside0.mk (below_step (Below.refl _ _) hb); clear hb)
        | (go_at_call 74; (with_reducible refine (H1.out _ ?cb).mono ?_); (case cb => exact Kd.C_below HR0.out HB.out); rintro e w2 ⟨vb, rfl, hb⟩; have HB2 := Aside0.mk (below_step HB.out hb); clear hb HB))
      go_ret2
      have hR := HRR.out
      simp  at hR
      obtain ⟨rfl, rfl⟩ := hR
      exact ⟨rfl, HB2.out⟩
    · by_cases he : g1 = (g0 + 1) % 256
      · have hne : (g1 == (g0 + 1) % 256) = true := by simp [he]
        have HE := Aside0.mk he
        clear he
        go_enter Tryd.func70, Tryd.ntmps70
        go_wp2_with (first
          | (go_at_call 74; (with_reducible refine H0.out.mono ?_); rintro e w1 ⟨va, rfl, hb⟩; have HB := Aside0.mk (below_step (Below.refl _ _) hb); clear hb)
          | (go_at_call 74; (with_reducible refine (H1.out _ ?cb).mono ?_); (case cb => exact Kd.C_below HR0.out HB.out); rintro e w2 ⟨vb, rfl, hb⟩; have HB2 := Aside0.mk (below_step HB.out hb); clear hb HB))
        go_ret2
        have hR := HRR.out
        rw [if_pos (by simp [HE.out])] at hR
        simp at hR
        obtain ⟨rfl, rfl⟩ := hR
        exact ⟨rfl, HB2.out⟩
      · have hne : (g1 == (g0 + 1) % 256) = false := by simp [he]
        have HE := Aside0.mk he
        clear he
        go_enter Tryd.func70, Tryd.ntmps70
        go_wp2_with (first
          | (go_at_call 74; (with_reducible refine H0.out.mono ?_); rintro e w1 ⟨va, rfl, hb⟩; have HB := Aside0.mk (below_step (Below.refl _ _) hb); clear hb)
          | (go_at_call 74; (with_reducible refine (H1.out _ ?cb).mono ?_); (case cb => exact Kd.C_below HR0.out HB.out); rintro e w2 ⟨vb, rfl, hb⟩; have HB2 := Aside0.mk (below_step HB.out hb); clear hb HB))
        go_ret2
        have hR := HRR.out
        rw [if_neg (by simp [HE.out])] at hR
        simp at hR
        obtain ⟨rfl, rfl⟩ := hR
        exact ⟨rfl, HB2.out⟩
theorem countsR_cases (nv : List Int) : (countsR nv).1 = -1 ∨ (countsR nv).1 = 0 ∨ (countsR nv).1 = 1 := by
  unfold countsR
  split
  · right; right; rfl
  · split
    · right; left; rfl
    · split
      · right; right; rfl
      · left; rfl
theorem bankR_len (B : List Int) (hB : B.length = 256) : (bankR B).2.1.length ≤ 248 := by
  unfold bankR
  split
  · simp [List.length_take, List.length_drop, hB]; omega
  · simp
def recR (nv : List Int) : List Int × Int × Bool :=
  if nv.length = 512 then (if 0 ≤ (countsR nv).1 then ((bankR (bankF nv (countsR nv).1)).2.1, (countsR nv).1, true) else ([], 0, false)) else ([], 0, false)
/-- What the reference's Recover answers. -/
def tinderref18_Recover.f (l0 : List Int) : Option (List Int × Int × Bool) := if bytesB l0 = true then some (recR l0) else none
set_option maxHeartbeats 4000000 in
set_option maxRecDepth 100000 in
theorem tinderref18_Recover.calls (A0 : Option Addr) (c0 : Nat) (l0 : List Int) (r1 : List Int) (r2 : Int) (r3 : Bool) (w : World) (hr0 : Kd.C (Kd.int .u8) w A0 l0.length l0) (hc0 : l0.length ≤ c0) (h : tinderref18_Recover.f l0 = some (r1, r2, r3)) :
    Calls Tryd.prog 56 #[.slice A0 l0.length c0] w fun e w' => ∃ v0_ : Value, e = .returned (.tuple #[v0_, .int .i64 r2, .bool r3]) ∧ Kd.R (Kd.int .u8) 5 w' w.heap.size (fun _ => True) v0_ r1 ∧ Below w.heap.size w w' := by
  unfold tinderref18_Recover.f at h
  split at h
  case isFalse => cases h
  rename_i hb
  have hR := Option.some.inj h
  unfold recR at hR
  have hbb := bytesB_iff.1 hb
  clear h
  by_cases hl : l0.length = 512
  · rw [if_pos hl] at hR
    obtain ⟨p, hp⟩ : ∃ p, p = countsR l0 := ⟨_, rfl⟩
    obtain ⟨k, g⟩ := p
    have hcf : tinderref18_Counts.f l0 = some (k, g) := by unfold tinderref18_Counts.f; rw [if_pos ⟨hl, hb⟩, ← hp]
    have hk1 : (countsR l0).1 = k := by rw [← hp]
    have hkc := countsR_cases l0
    rw [hk1] at hkc hR
    have hcc := tinderref18_Counts.calls A0 c0 l0 k g w hr0 hc0 hcf
    rw [hl] at hr0 hc0 hcc ⊢
    have HC := Aside0.mk hcc
    have HR0 := Aside0.mk hr0
    have HC0 := Aside0.mk hc0
    have HBY := Aside0.mk hbb
    have HL := Aside0.mk hl
    clear hcc hcf hp hk1 hb hbb hr0 hc0
    by_cases hk0 : 0 ≤ k
    · rw [if_pos hk0] at hR
      have hlt : decide (k < 0) = false := decide_eq_false (by omega)
      have hk01 : k = 0 ∨ k = 1 := by omega
      obtain ⟨d, hd⟩ : ∃ d, d = (bankR (bankF l0 k)).2.1 := ⟨_, rfl⟩
      rw [← hd] at hR
      have hdl : d.length ≤ 248 := by rw [hd]; exact bankR_len _ (bankF_len hl k)
      have HBk := Aside0.mk (show ∀ W : World, Kd.C (Kd.int .u8) W A0 512 l0 → Calls Tryd.prog 74 #[.slice A0 512 c0, .int .i64 k] W (fun e w' => ∃ (A : Option Addr) (c : Nat), e = .returned (.tuple #[.int .u8 (bankR (bankF l0 k)).1, .slice A d.length c, .bool (bankR (bankF l0 k)).2.2]) ∧ Kd.C (Kd.int .u8) W A d.length d ∧ d.length ≤ c ∧ Below W.heap.size W w') from fun W h => by rw [hd]; exact bank_calls A0 c0 l0 k W hk01 h HC0.out HBY.out)
      have HCp := Aside0.mk (show tinderref04_Copy.f d = some d by unfold tinderref04_Copy.f; rw [if_pos (by simp; omega)]; simp)
      have HRR := Aside0.mk hR
      clear hR hd hdl hk01 hk0 hkc hl
      go_enter Tryd.func56, Tryd.ntmps56
      go_wp2_with (first
        | (go_at_call 70; (with_reducible refine HC.out.mono ?_); rintro e w1 ⟨rfl, hb⟩; have HB := Aside0.mk (below_step (Below.refl _ _) hb); clear hb)
        | (go_at_call 74; (with_reducible refine (HBk.out _ ?cb).mono ?_); (case cb => exact Kd.C_below HR0.out HB.out); rintro e w2 ⟨A, c, rfl, hcd, hle, hb⟩; have HD := Aside0.mk (Kd.C_below hcd hb); have HLE := Aside0.mk hle; have HB2 := Aside0.mk (below_step HB.out hb); clear hb hcd hle HB)
        | (go_at_call 75; refine (tinderref04_Copy.calls _ _ _ _ _ HD.out HLE.out HCp.out).mono ?_; rintro e w3 ⟨v, rfl, ho, hb⟩; have HO := Aside0.mk (Kd.R_lower ho HB2.out.size); have HB3 := Aside0.mk (below_step HB2.out hb); clear hb ho))
      go_ret3
      have hR := HRR.out
      simp only [Prod.mk.injEq] at hR
      obtain ⟨rfl, rfl, rfl⟩ := hR
      exact ⟨_, rfl, HO.out, HB3.out⟩
    · rw [if_neg hk0] at hR
      have hlt : decide (k < 0) = true := decide_eq_true (by omega)
      have HRR := Aside0.mk hR
      clear hR hk0 hkc hl
      go_enter Tryd.func56, Tryd.ntmps56
      go_wp2_with (first
        | (go_at_call 70; (with_reducible refine HC.out.mono ?_); rintro e w1 ⟨rfl, hb⟩; have HB := Aside0.mk (below_step (Below.refl _ _) hb); clear hb)
        | (go_at_call 74; (with_reducible refine (HBk.out _ ?cb).mono ?_); (case cb => exact Kd.C_below HR0.out HB.out); rintro e w2 ⟨A, c, rfl, hcd, hle, hb⟩; have HD := Aside0.mk (Kd.C_below hcd hb); have HLE := Aside0.mk hle; have HB2 := Aside0.mk (below_step HB.out hb); clear hb hcd hle HB)
        | (go_at_call 75; refine (tinderref04_Copy.calls _ _ _ _ _ HD.out HLE.out HCp.out).mono ?_; rintro e w3 ⟨v, rfl, ho, hb⟩; have HO := Aside0.mk (Kd.R_lower ho HB2.out.size); have HB3 := Aside0.mk (below_step HB2.out hb); clear hb ho))
      go_ret3
      have hR := HRR.out
      simp only [Prod.mk.injEq] at hR
      obtain ⟨rfl, rfl, rfl⟩ := hR
      exact ⟨_, rfl, Kd.R_nil _ _ _ _ _, HB.out⟩
  · rw [if_neg hl] at hR
    have hne : ((l0.length : Int) != 512) = true := by simp; omega
    have HRR := Aside0.mk hR
    clear hR hl hb hbb
    go_enter Tryd.func56, Tryd.ntmps56
    go_wp2
    go_ret3
    have hR := HRR.out
    simp only [Prod.mk.injEq] at hR
    obtain ⟨rfl, rfl, rfl⟩ := hR
    exact ⟨_, rfl, Kd.R_nil _ _ _ _ _, Below.refl _ _⟩
end Go.Proofs.YtefhngadeimklaaDoor.Q
end
section
namespace Go.Proofs.YtefhngadeimklaaDoor.Q
open Go.RowKit Go.Proofs.YtefhngadeimklaaDoorW.PrintWords Go.Proofs.YtefhngadeimklaaDoorW.PrintLast Go.Proofs.YtefhngadeimklaaDoorW.PrintMore
def layF (base : Int) (rows : List S84) (l : List Int) : List S84 := l.foldl (fun r c => r ++ [⟨base + r.length, c⟩]) rows
theorem layF_len (base : Int) (l : List Int) : ∀ rows : List S84, (layF base rows l).length = rows.length + l.length := by
  induction l with
  | nil => intro rows; simp [layF]
  | cons c l ih =>
    intro rows
    show (layF base (rows ++ [⟨base + rows.length, c⟩]) l).length = _
    rw [ih]
    simp
    omega
set_option maxHeartbeats 4000000 in
set_option maxRecDepth 100000 in
theorem lay_calls (w0 w : World) (gr gb : Nat) (base : Int) (rv : Value) (rows : List S84) (A : Option Addr) (c : Nat) (l : List Int)
    (hB : Below w0.heap.size w0 w) (hgr : w0.heap.size ≤ gr) (hrow : w.heap[gr]? = some (.cells #[rv] 48 (0, 0))) (hbase : w.heap[gb]? = some (.cells #[.int .i64 base] 3 (0, 0)))
    (hR : Kd.R k84 84 w w0.heap.size (fun _ => True) rv rows) (hF : Kd.F (Kd.int .u8) w (fun k => k ≠ gr ∧ some k ≠ rv.ownBlock) A l.length l) (hlen : rows.length + l.length ≤ 1000) (hb : 0 ≤ base ∧ base ≤ 1000) :
    Calls Tryd.prog 67 #[.slice A l.length c, .pointer (some ⟨gr, 0, none⟩), .pointer (some ⟨gb, 0, none⟩)] w fun e w' => e = .returned (.tuple #[]) ∧ ∃ rv' : Value, w'.heap[gr]? = some (.cells #[rv'] 48 (0, 0)) ∧ w'.heap[gb]? = some (.cells #[.int .i64 base] 3 (0, 0)) ∧ Kd.R k84 84 w' w0.heap.size (fun _ => True) rv' (layF base rows l) ∧ Below w0.heap.size w0 w' := by
  have HB := Aside0.mk hB
  have GR := Aside0.mk hgr
  have BR := Aside0.mk hrow
  have BB := Aside0.mk hbase
  have HR := Aside0.mk hR
  have HF := Aside0.mk hF
  have HL := Aside0.mk hlen
  have HBB := Aside0.mk hb
  clear hB hgr hrow hbase hR hF hlen hb
  go_enter Tryd.func67, Tryd.ntmps67
  go_wp2
  go_loopg [8] l.length (fun kq v8 w' => ∃ (i : Int) (rv' : Value), v8 = .int .i64 i ∧ Aside0 (0 ≤ i ∧ i + kq = l.length) ∧ Aside0 (w'.heap[gr]? = some (.cells #[rv'] 48 (0, 0))) ∧ Aside0 (w'.heap[gb]? = some (.cells #[.int .i64 base] 3 (0, 0))) ∧ Aside0 (Kd.R k84 84 w' w0.heap.size (fun _ => True) rv' (layF base rows (l.take i.toNat))) ∧ Aside0 (Kd.F (Kd.int .u8) w' (fun k => k ≠ gr ∧ some k ≠ rv'.ownBlock) A l.length l) ∧ Aside0 (Below w0.heap.size w0 w'))
  case atStart => exact ⟨0, rv, rfl, ⟨by omega, by omega⟩, BR, BB, HR, HF, HB⟩
  case round =>
    clear BR BB HR HF HB
    obtain ⟨i, rv', rfl, HI, BR, BB, HR, HF, HB⟩ := hrel
    cases gk with
    | zero =>
      have hlt : decide (i < (l.length : Int)) = false := decide_eq_false (by have := HI.out; omega)
      have hR := HR.out
      rw [List.take_of_length_le (by have := HI.out; omega)] at hR
      go_wp2
      go_end0
      exact ⟨rfl, rv', BR.out, BB.out, hR, HB.out⟩
    | succ k1 =>
      have hi := HI.out
      have hll := HL.out
      have hbb := HBB.out
      have hlt : decide (i < (l.length : Int)) = true := decide_eq_true (by omega)
      have hwr : IntKind.i64.wrap (i + 1) = i + 1 := (i64_w _).trans (by unfold wrap64; omega)
      obtain ⟨xs, hxs⟩ : ∃ xs, xs = layF base rows (l.take i.toNat) := ⟨_, rfl⟩
      rw [← hxs] at HR
      have hxl : xs.length = rows.length + i.toNat := by rw [hxs, layF_len, List.length_take]; omega
      have hwl : IntKind.i64.wrap (base + (xs.length : Int)) = base + xs.length := (i64_w _).trans (by unfold wrap64; omega)
      have hnx : layF base rows (l.take (i + 1).toNat) = xs ++ [⟨base + xs.length, rd l i⟩] := by
        rw [show (i + 1).toNat = i.toNat + 1 by omega, List.take_succ_eq_append_getElem (show i.toNat < l.length by omega)]
        unfold layF
        rw [List.foldl_append]
        show (layF base rows (l.take i.toNat)) ++ [⟨base + (layF base rows (l.take i.toNat)).length, _⟩] = _
        rw [← hxs]
        simp [rd, List.getD_eq_getElem?_getD, List.getElem?_eq_getElem (show i.toNat < l.length by omega)]
      obtain ⟨ad, ea, hx0⟩ := Kd.at_int (Kd.F_now HF.out) i (by omega) (by omega)
      cases ea
      have p1 : (0 ≤ i) = True := eq_true (by omega)
      have p2 : (i < (l.length : Int)) = True := eq_true (by omega)
      obtain ⟨Ar, cr, rfl⟩ := Kd.R_slice HR.out
      have hcr := (blk_cell BR.out 0).trans rfl
      have hcb := (blk_cell BB.out 0).trans rfl
      have hfr := blk_frozen BR.out 0
      have HNR := Aside0.mk (Kd.R_ne HR.out BR.out (by decide))
      have HNB := Aside0.mk (Kd.R_ne HR.out BB.out (by decide))
      have HNX := Aside0.mk hnx
      have HXL := Aside0.mk hxl
      clear hi hll hbb hxs hxl hnx
      go_wp2_with (first
        | ((with_reducible refine gate_builtin (b := .append) (xs := #[.tmp 12, .tmp 19]) rfl ?_); at_builtin; refine Kd.R_append k84 (w0 := w0) w0.heap.size rfl (.tmp 12) (.tmp 19) 48 84 (.agg #[(.int .i64 0), (.int .u8 0)]) 16 rfl Tryd.underlying48 info84 rfl (by decide) (by omega) (.slice Ar xs.length cr) xs (⟨base + xs.length, rd l i⟩ : S84) [.int .i64 (base + xs.length), .int .u8 (rd l i)] (fun _ => True) (fun _ => False) rfl (by first | (go_simp; done) | (go_simp; rfl)) ?aP (fun _ hk => hk.elim) ?aF ?aO ?aB ?aS ?aL ?_; (case aP => exact k84_mkM _ _ _ (⟨base + xs.length, rd l i⟩ : S84)); (case aB => exact HB.out); (case aF => exact (fun _ _ => trivial)); (case aO => exact HR.out); (case aS => exact HB.out.size); (case aL => have := HXL.out; have := HL.out; have := HI.out; omega); intro v1 w1 ho hb hg hat; obtain ⟨A1, n1, c1, rfl⟩ : ∃ A n c, v1 = .slice A n c := (by obtain ⟨A, c, e⟩ := Kd.R_slice ho; exact ⟨A, _, c, e⟩); have BR1 := Aside0.mk (blk_grown BR.out hg HNR.out); have BB1 := Aside0.mk (blk_grown BB.out hg HNB.out); have HR1 := Aside0.mk ho; have HF1 := Aside0.mk (Kd.F_after HF.out hg hat); have HB1 := Aside0.mk hb; clear hcr hcb hfr hx0 ho hb hg hat; have hcz := (blk_cell BR1.out 0).trans rfl; have hfz := blk_frozen BR1.out 0))
      go_roundg k1
      case measure => omega
      case rel =>
        have hi := HI.out
        refine ⟨i + 1, .slice A1 n1 c1, rfl, ⟨by omega, by omega⟩, ⟨blk_put BR1.out 0 _ rfl⟩, ⟨blk_far BB1.out (p := ⟨gr, 0, none⟩) (blk_ne BB1.out BR1.out (by decide)) _⟩, ⟨?_⟩, ⟨Kd.F_far (p := ⟨gr, 0, none⟩) HF1.out (fun k hk => hk.1) _⟩, ⟨below_set HB1.out GR.out⟩⟩
        rw [HNX.out]
        exact Kd.R_set HR1.out BR1.out (by decide) 0 _
end Go.Proofs.YtefhngadeimklaaDoor.Q
end
section
namespace Go.Proofs.YtefhngadeimklaaDoor.Q
open Go.RowKit Go.Proofs.YtefhngadeimklaaDoorW.PrintWords Go.Proofs.YtefhngadeimklaaDoorW.PrintLast Go.Proofs.YtefhngadeimklaaDoorW.PrintMore
def genF (nv : List Int) : Int := if 0 ≤ countsF nv then (rd nv (countsF nv * 256 + 1) + 1) % 256 else 1
def baseF (nv : List Int) : Int := if 0 ≤ countsF nv then (1 - countsF nv) * 256 else 0
def rowsF (base g : Int) (data : List Int) : List S84 :=
  layF base (layF base (layF base [⟨base, 0⟩] [g, (data.length : Int) / 256 % 256, (data.length : Int) % 256]) (fourF (sumF g data))) data ++ [⟨base, 165⟩]
def planF (nv data : List Int) : List S84 × Int :=
  if nv.length = 512 then (if data.length ≤ 248 then (rowsF (baseF nv) (genF nv) data, 0) else ([], 3)) else ([], 1)
theorem rowsF_len (base g : Int) (data : List Int) : (rowsF base g data).length = data.length + 9 := by
  unfold rowsF
  rw [List.length_append, layF_len, layF_len, layF_len]
  simp [fourF]
  omega
theorem reps_single (W : World) (base : Nat) (ok : Nat → Prop) (b v : Int) : Reps (k84.M W base ok) k84.sz [(⟨b, v⟩ : S84)] [.int .i64 b, .int .u8 v] := by
  refine ⟨rfl, fun m q hm => ?_⟩
  have h0 : m = 0 := by
    have := (List.getElem?_eq_some_iff.1 hm).1
    simp at this
    exact this
  subst h0
  simp at hm
  subst hm
  exact k84_mkM W base ok (⟨b, v⟩ : S84)
set_option maxHeartbeats 8000000 in
set_option maxRecDepth 100000 in
theorem plan_calls (A0 : Option Addr) (c0 : Nat) (nv : List Int) (A1 : Option Addr) (c1 : Nat) (data : List Int) (w : World) (hr0 : Kd.C (Kd.int .u8) w A0 nv.length nv) (hc0 : nv.length ≤ c0) (hb0 : nv_Bytes nv) (hr1 : Kd.C (Kd.int .u8) w A1 data.length data) (hc1 : data.length ≤ c1) :
    Calls Tryd.prog 53 #[.slice A0 nv.length c0, .slice A1 data.length c1] w fun e w' => ∃ v : Value, e = .returned (.tuple #[v, .int .i64 (planF nv data).2]) ∧ Kd.R k84 84 w' w.heap.size (fun _ => True) v (planF nv data).1 ∧ Below w.heap.size w w' := by
  obtain ⟨Z, hZ⟩ : ∃ Z, Z = byteCells (List.replicate 512 0) := ⟨_, rfl⟩
  obtain ⟨L, hL⟩ : ∃ L, L = bothF nv := ⟨_, rfl⟩
  obtain ⟨k, hk⟩ : ∃ k, k = countsF L := ⟨_, rfl⟩
  obtain ⟨ok, hok⟩ : ∃ ok, ok = decide (nv.length = 512) := ⟨_, rfl⟩
  obtain ⟨R, hR⟩ : ∃ R, R = planF nv data := ⟨_, rfl⟩
  rw [← hR]
  have hLl : L.length = 512 := by rw [hL]; exact bothF_len nv
  have hLb : nv_Bytes L := hL ▸ bothF_bytes hb0
  have HLB := Aside0.mk hLb
  have HZL := Aside0.mk (show Z.length = 512 by rw [hZ, byteCells_len]; simp)
  have HLC := Aside0.mk (show (byteCells L).length = 512 by rw [byteCells_len]; exact hLl)
  have HLL := Aside0.mk hLl
  have HZ := Aside0.mk hZ
  have hkc := countsF_cases L
  rw [← hk] at hkc
  have HBo := Aside0.mk (show Calls Tryd.prog 65 #[.slice A0 nv.length c0] w (fun e w' => e = .returned (.tuple #[.agg (byteCells L).toArray, .bool ok]) ∧ Below w.heap.size w w') from by rw [hL, hok]; exact both_calls A0 c0 nv w hr0 hc0)
  have HCo := Aside0.mk (show ∀ (g : Nat) (W : World), Kd.C (Kd.int .u8) W (some ⟨g, 0, none⟩) 512 L → Calls Tryd.prog 66 #[.pointer (some ⟨g, 0, none⟩)] W (fun e w' => e = .returned (.int .i64 k) ∧ Below W.heap.size W w') from fun g W h => by rw [hk]; exact counts_calls g L W h HLB.out)
  have HR1 := Aside0.mk hr1
  have HC1 := Aside0.mk hc1
  by_cases hl : nv.length = 512
  · have hLn : L = nv := by rw [hL]; unfold bothF; rw [if_pos hl]
    subst hLn
    obtain rfl : ok = true := by rw [hok]; exact decide_eq_true hl
    unfold planF at hR
    rw [if_pos hl] at hR
    by_cases hd : data.length ≤ 248
    · rw [if_pos hd] at hR
      have hlt : decide ((248 : Int) < (data.length : Int)) = false := decide_eq_false (by omega)
      have HDL := Aside0.mk hd
      by_cases hk0 : 0 ≤ k
      · have hge : decide (0 ≤ k) = true := decide_eq_true hk0
        obtain ⟨x, hx⟩ : ∃ x, x = rd L (k * 256 + 1) := ⟨_, rfl⟩
        obtain ⟨g, hg⟩ : ∃ g, g = (x + 1) % 256 := ⟨_, rfl⟩
        obtain ⟨tg, htg⟩ : ∃ tg, tg = 1 - k := ⟨_, rfl⟩
        obtain ⟨base, hbase⟩ : ∃ b, b = tg * 256 := ⟨_, rfl⟩
        have hw1 : IntKind.i64.wrap (1 - k) = tg := (i64_w _).trans (by unfold wrap64; omega)
        have hw2 : IntKind.u8.wrap (x + 1) = g := by rw [wrap_u8]; exact hg.symm
        have hw3 : IntKind.i64.wrap (tg * 256) = base := (i64_w _).trans (by unfold wrap64; omega)
        have p1 : (0 ≤ k) = True := eq_true hk0
        have p2 : (k < 2) = True := eq_true (by omega)
        have hRr : R = (rowsF base g data, 0) := by
          rw [hR]
          unfold baseF genF
          rw [← hk, if_pos hk0, if_pos hk0, ← hx, ← hg, ← htg, ← hbase]
        have HRr := Aside0.mk hRr
        have HBB := Aside0.mk (show 0 ≤ base ∧ base ≤ 1000 by omega)
        have HX := Aside0.mk (show ∀ (W : World) (q : Nat), Kd.C (Kd.int .u8) W (some ⟨q, 0, none⟩) 512 L → W.cell? ⟨q, k.toNat * 256 + 1, none⟩ = some (.int .u8 x) from fun W q h => by
          obtain ⟨ad', ea, h2⟩ := Kd.at_int h (k * 256 + 1) (by omega) (by omega)
          cases ea
          rw [Addr.add_mid, ← hx] at h2
          rw [show k.toNat * 256 + 1 = 0 + (k * 256 + 1).toNat by omega]
          exact h2)
        clear hR hRr hx hg htg hbase hk hok hL hZ hLl hLb hkc hk0 hd hl hr0 hc0 hr1 hc1 hb0
        go_enter Tryd.func53, Tryd.ntmps53
        go_wp2_with (first
          | (go_at_call 65; (with_reducible refine HBo.out.mono ?_); rintro e w1 ⟨rfl, hb⟩; have HB := Aside0.mk (below_step (Below.refl _ _) hb); clear hb)
          | ((with_reducible refine gate_dst (N := 6) rfl ?_); refine box_event ?hg (N := 6) ?hd (cs := Z.toArray) (t := 92) ?hr ?_; (case hd => rfl); (case hg => rfl); (case hr => have hZ2 := HZ.out; first | (go_simp; done) | (go_simp; rfl)); intro ga hg w2 hbox hb; have BK := Aside0.mk hbox; have GA := Aside0.mk (show w.heap.size ≤ ga from hg ▸ HB.out.size); have HB2 := Aside0.mk (below_step HB.out hb); clear hbox hb hg HB)
          | ((with_reducible refine gate_ (.store 92 (.tmp 6) (.tmp 17)) rfl ?_); refine wpList_store_arr (w0 := w) rfl 92 (.tmp 6) (.tmp 17) rfl ga 0 (byteCells L) rfl rfl ?ht (by rw [HLC.out]; exact size50) (byteCells_one L) HB2.out GA.out ?_; (case ht => exact fun j hj => ⟨by rw [blk_cell BK.out]; have := HLC.out; have := HZL.out; simp; omega, blk_frozen BK.out _⟩); intro w3 hrg hb _; have HC3 := Aside0.mk (C_of_range (L := L) (n := 512) hrg HLL.out (by decide)); have HB3 := Aside0.mk hb; clear hrg hb BK HB2)
          | (go_at_call 66; (with_reducible refine (HCo.out ga _ ?cc).mono ?_); (case cc => exact HC3.out); rintro e w4 ⟨rfl, hb⟩; have HC4 := Aside0.mk (Kd.C_below HC3.out hb); have HB4 := Aside0.mk (below_step HB3.out hb); clear hb))
        have hx9 := HX.out _ ga HC4.out
        refine start_ (n := 9) (S := fun w' => w'.cell? ⟨ga, k.toNat * 256 + 1, none⟩ = some (.int .u8 x)) (ds := []) #[false, false, false, false, false, false, false, false, false] (by kernel_rfl) rfl rfl hx9 (fun hHeld => ?_)
        refine pure_ (i := 0) (N := some 29) (v := ?_) (a' := ?_) #[true, false, false, false, false, false, false, false, false] rfl rfl (by kernel_rfl) (fun _ _ _ h => h) (Or.inl ⟨by rfl, ?_⟩) ?_ ?_
        rotate_left
        · intro w'
          go_simp
          with_reducible rfl
        rotate_left
        · simp only [Act.put, List.setIfInBounds_toArray, List.set_cons_zero, List.set_cons_succ]
          rfl
        refine pure_ (i := 1) (N := some 30) (v := ?_) (a' := ?_) #[true, true, false, false, false, false, false, false, false] rfl rfl (by kernel_rfl) (fun _ _ _ h => h) (Or.inl ⟨by rfl, ?_⟩) ?_ ?_
        rotate_left
        · intro w'
          go_simp
          with_reducible rfl
        rotate_left
        · simp only [Act.put, List.setIfInBounds_toArray, List.set_cons_zero, List.set_cons_succ]
          rfl
        refine pure_ (i := 2) (N := some 31) (v := ?_) (a' := ?_) #[true, true, true, false, false, false, false, false, false] rfl rfl (by kernel_rfl) (fun _ _ _ h => h) (Or.inl ⟨by rfl, ?_⟩) ?_ ?_
        rotate_left
        · intro w'
          go_simp
          with_reducible rfl
        rotate_left
        · simp only [Act.put, List.setIfInBounds_toArray, List.set_cons_zero, List.set_cons_succ]
          rfl
        refine pure_ (i := 3) (N := some 32) (v := ?_) (a' := ?_) #[true, true, true, true, false, false, false, false, false] rfl rfl (by kernel_rfl) (fun _ _ _ h => h) (Or.inl ⟨by rfl, ?_⟩) ?_ ?_
        rotate_left
        · intro w'
          go_simp
          with_reducible rfl
        rotate_left
        · simp only [Act.put, List.setIfInBounds_toArray, List.set_cons_zero, List.set_cons_succ]
          rfl
        refine pure_ (i := 4) (N := some 33) (v := ?_) (a' := ?_) #[true, true, true, true, true, false, false, false, false] rfl rfl (by kernel_rfl) (fun _ _ _ h => h) (Or.inl ⟨by rfl, ?_⟩) ?_ ?_
        rotate_left
        · intro w'
          go_simp
          with_reducible rfl
        rotate_left
        · simp only [Act.put, List.setIfInBounds_toArray, List.set_cons_zero, List.set_cons_succ]
          rfl
        refine take_ (i := 5) (N := some 34) (v := .int .u8 x) (a' := ?_) #[true, true, true, true, true, true, false, false, false] rfl rfl (by kernel_rfl) (fun _ _ _ h => h) (Or.inl ⟨by rfl, ?_⟩) hHeld ?_ ?_
        rotate_left
        rotate_left
        · simp only [Act.put, List.setIfInBounds_toArray, List.set_cons_zero, List.set_cons_succ]
          rfl
        rotate_left
        · rintro w' s0
          go_simp
        refine pure_ (i := 6) (N := some 35) (v := ?_) (a' := ?_) #[true, true, true, true, true, true, true, false, false] rfl rfl (by kernel_rfl) (fun _ _ _ h => h) (Or.inl ⟨by rfl, ?_⟩) ?_ ?_
        rotate_left
        · intro w'
          go_simp
          with_reducible rfl
        rotate_left
        · simp only [Act.put, List.setIfInBounds_toArray, List.set_cons_zero, List.set_cons_succ]
          rfl
        refine pure_ (i := 7) (N := some 8) (v := ?_) (a' := ?_) #[true, true, true, true, true, true, true, true, false] rfl rfl (by kernel_rfl) (fun _ _ _ h => h) (Or.inl ⟨by rfl, ?_⟩) ?_ ?_
        rotate_left
        · intro w'
          go_simp
          with_reducible rfl
        rotate_left
        · simp only [Act.put, List.setIfInBounds_toArray, List.set_cons_zero, List.set_cons_succ]
          rfl
        refine pure_ (i := 8) (N := some 9) (v := ?_) (a' := ?_) #[true, true, true, true, true, true, true, true, true] rfl rfl (by kernel_rfl) (fun _ _ _ h => h) (Or.inl ⟨by rfl, ?_⟩) ?_ ?_
        rotate_left
        · intro w'
          go_simp
          with_reducible rfl
        rotate_left
        · simp only [Act.put, List.setIfInBounds_toArray, List.set_cons_zero, List.set_cons_succ]
          rfl
        refine done_ (n := 0) (by kernel_rfl) ?_
        clear hx9 hHeld
        go_wp2_with (first
          | ((with_reducible refine gate_dst (N := 11) rfl ?_); refine box_event ?hg (N := 11) ?hd (cs := #[.int .i64 0]) (t := 3) ?hr ?_; (case hd => rfl); (case hg => rfl); (case hr => first | (go_simp; done) | (go_simp; rfl)); intro gb hg w5 hbox hb; have BB := Aside0.mk hbox; have GB := Aside0.mk (show w.heap.size ≤ gb from hg ▸ (below_drew HB4.out).size); have HB5 := Aside0.mk (below_step (below_drew HB4.out) hb); clear hbox hb hg; have hz5 := (blk_cell BB.out 0).trans rfl; have hf5 := blk_frozen BB.out 0; have hcs5 : ∀ x : Value, (w5.setCell ⟨gb, 0, none⟩ x).cell? ⟨gb, 0, none⟩ = some x := fun x => (blk_cell (blk_put BB.out 0 x rfl) 0).trans rfl)
          | ((with_reducible refine gate_dst (N := 40) rfl ?_); refine Kd.R_lit (w0 := w) k84 w.heap.size 84 ?hg (N := 40) ?hd (xs := ([⟨base, 0⟩] : List S84)) (inner := [.int .i64 base, .int .u8 0]) (ok := fun _ => True) (okp := fun _ => True) ?hr ?hp (fun _ hk => hk) trivial ?hB ?hS (by simp) ?_; (case hd => rfl); (case hg => rfl); (case hr => first | (go_simp; done) | (go_simp; rfl)); (case hp => exact reps_single _ _ _ _ _); (case hB => exact below_set HB5.out GB.out); (case hS => exact (below_set HB5.out GB.out).size); intro v6 w6 ho hb hg hnew; obtain ⟨A6, n6, c6, rfl⟩ : ∃ A n c, v6 = .slice A n c := (by obtain ⟨A, c, e⟩ := Kd.R_slice ho; exact ⟨A, _, c, e⟩); have BB6 := Aside0.mk (blk_grown (blk_put BB.out 0 (.int .i64 base) rfl) hg (by simp)); have HR6 := Aside0.mk ho; have HB6 := Aside0.mk hb; clear ho hb hg hnew hz5 hf5 hcs5 BB HB5)
          | ((with_reducible refine gate_dst (N := 12) rfl ?_); refine box_event ?hg (N := 12) ?hd (cs := #[.slice none 0 0]) (t := 48) ?hr ?_; (case hd => rfl); (case hg => rfl); (case hr => first | (go_simp; done) | (go_simp; rfl)); intro gr hg w7 hbox hb; have BR7 := Aside0.mk hbox; have GR := Aside0.mk (show w.heap.size ≤ gr from hg ▸ HB6.out.size); have BB7 := Aside0.mk (blk_below BB6.out hb); have HR7 := Aside0.mk (Kd.R_below HR6.out hb); have HB7 := Aside0.mk (below_step HB6.out hb); clear hbox hb hg BB6 HR6 HB6; have hz7 := (blk_cell BR7.out 0).trans rfl; have hf7 := blk_frozen BR7.out 0)
          | ((with_reducible refine gate_dst (N := 51) rfl ?_); refine Kd.R_lit (w0 := w) (Kd.int .u8) w.heap.size 5 ?hg (N := 51) ?hd (xs := ([g, (data.length : Int) / 256 % 256, (data.length : Int) % 256] : List Int)) (inner := [.int .u8 g, .int .u8 ((data.length : Int) / 256 % 256), .int .u8 ((data.length : Int) % 256)]) (ok := fun _ => True) (okp := fun _ => True) ?hr ?hp (fun _ hk => hk) trivial ?hB ?hS (by simp) ?_; (case hd => rfl); (case hg => rfl); (case hr => first | (go_simp; done) | (go_simp; rfl)); (case hp => exact (Reps.one (show Kd.M (Kd.int .u8) _ _ _ g [.int .u8 g] from rfl) (Reps.one (show Kd.M (Kd.int .u8) _ _ _ ((data.length : Int) / 256 % 256) [.int .u8 ((data.length : Int) / 256 % 256)] from rfl) (Reps.one (show Kd.M (Kd.int .u8) _ _ _ ((data.length : Int) % 256) [.int .u8 ((data.length : Int) % 256)] from rfl) (Reps.none _ _))))); (case hB => exact below_set HB7.out GR.out); (case hS => exact (below_set HB7.out GR.out).size); intro v8 w8 ho hb hg hnew; obtain ⟨A8, c8, rfl⟩ := Kd.R_slice ho; have BR8 := Aside0.mk (blk_grown (blk_put BR7.out 0 (.slice A6 n6 c6) rfl) hg (by simp)); have BB8 := Aside0.mk (blk_grown (blk_far (p := ⟨gr, 0, none⟩) BB7.out (blk_ne BB7.out BR7.out (by decide)) (.slice A6 n6 c6)) hg (by simp)); have HR8 := Aside0.mk (R_flat_grown rfl (Kd.R_set HR7.out BR7.out (by decide) 0 (.slice A6 n6 c6)) hg (fun k _ => by simp)); have HO8 := Aside0.mk ho; have HB8 := Aside0.mk hb; clear ho hb hg hnew hz7 hf7 BR7 BB7 HR7 HB7)
          | (go_at_call 67; refine (lay_calls w _ gr gb base _ ([⟨base, 0⟩] : List S84) A8 c8 ([g, (data.length : Int) / 256 % 256, (data.length : Int) % 256] : List Int) HB8.out GR.out BR8.out BB8.out HR8.out ?f8 (by simp) HBB.out).mono ?_; (case f8 => refine Kd.F_mono (Kd.R_F (Kd.R_tight rfl HO8.out)) (fun k hk => ⟨fun e => Kd.R_ne HO8.out BR8.out (by decide) (e ▸ hk), fun e => (by obtain ⟨c1_, h1_⟩ := Kd.R_typed HO8.out k hk.symm; obtain ⟨c2_, h2_⟩ := Kd.R_typed HR8.out k e.symm; rw [h1_] at h2_; injection h2_ with h2_; injection h2_ with _ h2_ _; exact absurd h2_ (by decide))⟩)); rintro e w9 ⟨rfl, rv9, h1, h2, h3, h4⟩; have BR9 := Aside0.mk h1; have BB9 := Aside0.mk h2; have HR9 := Aside0.mk h3; have HB9 := Aside0.mk h4; clear h1 h2 h3 h4 BR8 BB8 HR8 HB8 HO8)
          | (go_at_call 69; refine (nvram_Sum.calls _ _ _ _ _ _ (Kd.C_below HR1.out HB9.out) HC1.out rfl).mono ?_; rintro e w10 ⟨rfl, hb⟩; have BR10 := Aside0.mk (blk_below BR9.out hb); have BB10 := Aside0.mk (blk_below BB9.out hb); have HR10 := Aside0.mk (Kd.R_below HR9.out hb); have HB10 := Aside0.mk (below_step HB9.out hb); clear hb BR9 BB9 HR9 HB9)
          | (go_at_call 68; refine (nvram_four.calls (sumF g data) (fourF (sumF g data)) _ rfl).mono ?_; rintro e w11 ⟨v11, rfl, ho, hb⟩; obtain ⟨A11, c11, rfl⟩ := Kd.R_slice ho; have BR11 := Aside0.mk (blk_below BR10.out hb); have BB11 := Aside0.mk (blk_below BB10.out hb); have HR11 := Aside0.mk (Kd.R_below HR10.out hb); have HO11 := Aside0.mk (Kd.R_lower ho HB10.out.size); have HB11 := Aside0.mk (below_step HB10.out hb); clear ho hb BR10 BB10 HR10 HB10)
          | (go_at_call 67; refine (lay_calls w _ gr gb base _ (layF base ([⟨base, 0⟩] : List S84) ([g, (data.length : Int) / 256 % 256, (data.length : Int) % 256] : List Int)) A11 c11 (fourF (sumF g data)) HB11.out GR.out BR11.out BB11.out HR11.out ?f11 (by rw [layF_len]; simp [fourF]) HBB.out).mono ?_; (case f11 => refine Kd.F_mono (Kd.R_F (Kd.R_tight rfl HO11.out)) (fun k hk => ⟨fun e => Kd.R_ne HO11.out BR11.out (by decide) (e ▸ hk), fun e => (by obtain ⟨c1_, h1_⟩ := Kd.R_typed HO11.out k hk.symm; obtain ⟨c2_, h2_⟩ := Kd.R_typed HR11.out k e.symm; rw [h1_] at h2_; injection h2_ with h2_; injection h2_ with _ h2_ _; exact absurd h2_ (by decide))⟩)); rintro e w12 ⟨rfl, rv12, h1, h2, h3, h4⟩; have BR12 := Aside0.mk h1; have BB12 := Aside0.mk h2; have HR12 := Aside0.mk h3; have HB12 := Aside0.mk h4; clear h1 h2 h3 h4 BR11 BB11 HR11 HB11 HO11)
          | (go_at_call 67; refine (lay_calls w _ gr gb base _ (layF base (layF base ([⟨base, 0⟩] : List S84) ([g, (data.length : Int) / 256 % 256, (data.length : Int) % 256] : List Int)) (fourF (sumF g data))) A1 c1 data HB12.out GR.out BR12.out BB12.out HR12.out ?f12 (by rw [layF_len, layF_len]; have := HDL.out; simp [fourF]; omega) HBB.out).mono ?_; (case f12 => exact Kd.F_mono (Kd.F_below (Kd.C_F (Kd.heap_int .u8) HR1.out) HB12.out) (fun k hk => ⟨fun e => by have := GR.out; omega, fun e => by have := Kd.R_base HR12.out k e.symm; omega⟩)); rintro e w13 ⟨rfl, rv13, h1, h2, h3, h4⟩; have BR13 := Aside0.mk h1; have BB13 := Aside0.mk h2; have HR13 := Aside0.mk h3; have HB13 := Aside0.mk h4; clear h1 h2 h3 h4 BR12 BB12 HR12 HB12; have hz13 := (blk_cell BR13.out 0).trans rfl; have hb13 := (blk_cell BB13.out 0).trans rfl)
          | ((with_reducible refine gate_builtin (b := .append) (xs := #[.tmp 62, .tmp 65]) rfl ?_); at_builtin; refine Kd.R_append k84 (w0 := w) w.heap.size rfl (.tmp 62) (.tmp 65) 48 84 (.agg #[(.int .i64 0), (.int .u8 0)]) 16 rfl Tryd.underlying48 info84 rfl (by decide) (by omega) rv13 (layF base (layF base (layF base ([⟨base, 0⟩] : List S84) ([g, (data.length : Int) / 256 % 256, (data.length : Int) % 256] : List Int)) (fourF (sumF g data))) data) (⟨base, 165⟩ : S84) [.int .i64 base, .int .u8 165] (fun _ => True) (fun _ => False) rfl (by first | (go_simp; done) | (go_simp; rfl)) ?aP (fun _ hk => hk.elim) ?aF ?aO ?aB ?aS ?aL ?_; (case aP => exact k84_mkM _ _ _ (⟨base, 165⟩ : S84)); (case aB => exact HB13.out); (case aF => exact (fun _ _ => trivial)); (case aO => exact HR13.out); (case aS => exact HB13.out.size); (case aL => rw [layF_len, layF_len, layF_len]; have := HDL.out; simp [fourF]; omega); intro v14 w14 ho hb hg hat; have HR14 := Aside0.mk ho; have HB14 := Aside0.mk hb; clear hz13 hb13 ho hb hg hat))
        go_ret2
        rw [HRr.out]
        exact ⟨_, rfl, HR14.out, HB14.out⟩
      · have hge : decide (0 ≤ k) = false := decide_eq_false hk0
        have hRr : R = (rowsF 0 1 data, 0) := by
          rw [hR]
          unfold baseF genF
          rw [← hk, if_neg hk0, if_neg hk0]
        have HRr := Aside0.mk hRr
        have HBB := Aside0.mk (show (0 : Int) ≤ 0 ∧ (0 : Int) ≤ 1000 by omega)
        clear hR hRr hk hok hL hZ hLl hLb hkc hk0 hd hl hr0 hc0 hr1 hc1 hb0
        go_enter Tryd.func53, Tryd.ntmps53
        go_wp2_with (first
          | (go_at_call 65; (with_reducible refine HBo.out.mono ?_); rintro e w1 ⟨rfl, hb⟩; have HB := Aside0.mk (below_step (Below.refl _ _) hb); clear hb)
          | ((with_reducible refine gate_dst (N := 6) rfl ?_); refine box_event ?hg (N := 6) ?hd (cs := Z.toArray) (t := 92) ?hr ?_; (case hd => rfl); (case hg => rfl); (case hr => have hZ2 := HZ.out; first | (go_simp; done) | (go_simp; rfl)); intro ga hg w2 hbox hb; have BK := Aside0.mk hbox; have GA := Aside0.mk (show w.heap.size ≤ ga from hg ▸ HB.out.size); have HB2 := Aside0.mk (below_step HB.out hb); clear hbox hb hg HB)
          | ((with_reducible refine gate_ (.store 92 (.tmp 6) (.tmp 17)) rfl ?_); refine wpList_store_arr (w0 := w) rfl 92 (.tmp 6) (.tmp 17) rfl ga 0 (byteCells L) rfl rfl ?ht (by rw [HLC.out]; exact size50) (byteCells_one L) HB2.out GA.out ?_; (case ht => exact fun j hj => ⟨by rw [blk_cell BK.out]; have := HLC.out; have := HZL.out; simp; omega, blk_frozen BK.out _⟩); intro w3 hrg hb _; have HC3 := Aside0.mk (C_of_range (L := L) (n := 512) hrg HLL.out (by decide)); have HB3 := Aside0.mk hb; clear hrg hb BK HB2)
          | (go_at_call 66; (with_reducible refine (HCo.out ga _ ?cc).mono ?_); (case cc => exact HC3.out); rintro e w4 ⟨rfl, hb⟩; have HC4 := Aside0.mk (Kd.C_below HC3.out hb); have HB4 := Aside0.mk (below_step HB3.out hb); clear hb)
          | ((with_reducible refine gate_dst (N := 11) rfl ?_); refine box_event ?hg (N := 11) ?hd (cs := #[.int .i64 0]) (t := 3) ?hr ?_; (case hd => rfl); (case hg => rfl); (case hr => first | (go_simp; done) | (go_simp; rfl)); intro gb hg w5 hbox hb; have BB := Aside0.mk hbox; have GB := Aside0.mk (show w.heap.size ≤ gb from hg ▸ HB4.out.size); have HB5 := Aside0.mk (below_step HB4.out hb); clear hbox hb hg; have hz5 := (blk_cell BB.out 0).trans rfl; have hf5 := blk_frozen BB.out 0; have hcs5 : ∀ x : Value, (w5.setCell ⟨gb, 0, none⟩ x).cell? ⟨gb, 0, none⟩ = some x := fun x => (blk_cell (blk_put BB.out 0 x rfl) 0).trans rfl)
          | ((with_reducible refine gate_dst (N := 40) rfl ?_); refine Kd.R_lit (w0 := w) k84 w.heap.size 84 ?hg (N := 40) ?hd (xs := ([⟨0, 0⟩] : List S84)) (inner := [.int .i64 0, .int .u8 0]) (ok := fun _ => True) (okp := fun _ => True) ?hr ?hp (fun _ hk => hk) trivial ?hB ?hS (by simp) ?_; (case hd => rfl); (case hg => rfl); (case hr => first | (go_simp; done) | (go_simp; rfl)); (case hp => exact reps_single _ _ _ _ _); (case hB => exact below_set HB5.out GB.out); (case hS => exact (below_set HB5.out GB.out).size); intro v6 w6 ho hb hg hnew; obtain ⟨A6, n6, c6, rfl⟩ : ∃ A n c, v6 = .slice A n c := (by obtain ⟨A, c, e⟩ := Kd.R_slice ho; exact ⟨A, _, c, e⟩); have BB6 := Aside0.mk (blk_grown (blk_put BB.out 0 (.int .i64 0) rfl) hg (by simp)); have HR6 := Aside0.mk ho; have HB6 := Aside0.mk hb; clear ho hb hg hnew hz5 hf5 hcs5 BB HB5)
          | ((with_reducible refine gate_dst (N := 12) rfl ?_); refine box_event ?hg (N := 12) ?hd (cs := #[.slice none 0 0]) (t := 48) ?hr ?_; (case hd => rfl); (case hg => rfl); (case hr => first | (go_simp; done) | (go_simp; rfl)); intro gr hg w7 hbox hb; have BR7 := Aside0.mk hbox; have GR := Aside0.mk (show w.heap.size ≤ gr from hg ▸ HB6.out.size); have BB7 := Aside0.mk (blk_below BB6.out hb); have HR7 := Aside0.mk (Kd.R_below HR6.out hb); have HB7 := Aside0.mk (below_step HB6.out hb); clear hbox hb hg BB6 HR6 HB6; have hz7 := (blk_cell BR7.out 0).trans rfl; have hf7 := blk_frozen BR7.out 0)
          | ((with_reducible refine gate_dst (N := 51) rfl ?_); refine Kd.R_lit (w0 := w) (Kd.int .u8) w.heap.size 5 ?hg (N := 51) ?hd (xs := ([1, (data.length : Int) / 256 % 256, (data.length : Int) % 256] : List Int)) (inner := [.int .u8 1, .int .u8 ((data.length : Int) / 256 % 256), .int .u8 ((data.length : Int) % 256)]) (ok := fun _ => True) (okp := fun _ => True) ?hr ?hp (fun _ hk => hk) trivial ?hB ?hS (by simp) ?_; (case hd => rfl); (case hg => rfl); (case hr => first | (go_simp; done) | (go_simp; rfl)); (case hp => exact (Reps.one (show Kd.M (Kd.int .u8) _ _ _ 1 [.int .u8 1] from rfl) (Reps.one (show Kd.M (Kd.int .u8) _ _ _ ((data.length : Int) / 256 % 256) [.int .u8 ((data.length : Int) / 256 % 256)] from rfl) (Reps.one (show Kd.M (Kd.int .u8) _ _ _ ((data.length : Int) % 256) [.int .u8 ((data.length : Int) % 256)] from rfl) (Reps.none _ _))))); (case hB => exact below_set HB7.out GR.out); (case hS => exact (below_set HB7.out GR.out).size); intro v8 w8 ho hb hg hnew; obtain ⟨A8, c8, rfl⟩ := Kd.R_slice ho; have BR8 := Aside0.mk (blk_grown (blk_put BR7.out 0 (.slice A6 n6 c6) rfl) hg (by simp)); have BB8 := Aside0.mk (blk_grown (blk_far (p := ⟨gr, 0, none⟩) BB7.out (blk_ne BB7.out BR7.out (by decide)) (.slice A6 n6 c6)) hg (by simp)); have HR8 := Aside0.mk (R_flat_grown rfl (Kd.R_set HR7.out BR7.out (by decide) 0 (.slice A6 n6 c6)) hg (fun k _ => by simp)); have HO8 := Aside0.mk ho; have HB8 := Aside0.mk hb; clear ho hb hg hnew hz7 hf7 BR7 BB7 HR7 HB7)
          | (go_at_call 67; refine (lay_calls w _ gr gb 0 _ ([⟨0, 0⟩] : List S84) A8 c8 ([1, (data.length : Int) / 256 % 256, (data.length : Int) % 256] : List Int) HB8.out GR.out BR8.out BB8.out HR8.out ?f8 (by simp) HBB.out).mono ?_; (case f8 => refine Kd.F_mono (Kd.R_F (Kd.R_tight rfl HO8.out)) (fun k hk => ⟨fun e => Kd.R_ne HO8.out BR8.out (by decide) (e ▸ hk), fun e => (by obtain ⟨c1_, h1_⟩ := Kd.R_typed HO8.out k hk.symm; obtain ⟨c2_, h2_⟩ := Kd.R_typed HR8.out k e.symm; rw [h1_] at h2_; injection h2_ with h2_; injection h2_ with _ h2_ _; exact absurd h2_ (by decide))⟩)); rintro e w9 ⟨rfl, rv9, h1, h2, h3, h4⟩; have BR9 := Aside0.mk h1; have BB9 := Aside0.mk h2; have HR9 := Aside0.mk h3; have HB9 := Aside0.mk h4; clear h1 h2 h3 h4 BR8 BB8 HR8 HB8 HO8)
          | (go_at_call 69; refine (nvram_Sum.calls _ _ _ _ _ _ (Kd.C_below HR1.out HB9.out) HC1.out rfl).mono ?_; rintro e w10 ⟨rfl, hb⟩; have BR10 := Aside0.mk (blk_below BR9.out hb); have BB10 := Aside0.mk (blk_below BB9.out hb); have HR10 := Aside0.mk (Kd.R_below HR9.out hb); have HB10 := Aside0.mk (below_step HB9.out hb); clear hb BR9 BB9 HR9 HB9)
          | (go_at_call 68; refine (nvram_four.calls (sumF 1 data) (fourF (sumF 1 data)) _ rfl).mono ?_; rintro e w11 ⟨v11, rfl, ho, hb⟩; obtain ⟨A11, c11, rfl⟩ := Kd.R_slice ho; have BR11 := Aside0.mk (blk_below BR10.out hb); have BB11 := Aside0.mk (blk_below BB10.out hb); have HR11 := Aside0.mk (Kd.R_below HR10.out hb); have HO11 := Aside0.mk (Kd.R_lower ho HB10.out.size); have HB11 := Aside0.mk (below_step HB10.out hb); clear ho hb BR10 BB10 HR10 HB10)
          | (go_at_call 67; refine (lay_calls w _ gr gb 0 _ (layF 0 ([⟨0, 0⟩] : List S84) ([1, (data.length : Int) / 256 % 256, (data.length : Int) % 256] : List Int)) A11 c11 (fourF (sumF 1 data)) HB11.out GR.out BR11.out BB11.out HR11.out ?f11 (by rw [layF_len]; simp [fourF]) HBB.out).mono ?_; (case f11 => refine Kd.F_mono (Kd.R_F (Kd.R_tight rfl HO11.out)) (fun k hk => ⟨fun e => Kd.R_ne HO11.out BR11.out (by decide) (e ▸ hk), fun e => (by obtain ⟨c1_, h1_⟩ := Kd.R_typed HO11.out k hk.symm; obtain ⟨c2_, h2_⟩ := Kd.R_typed HR11.out k e.symm; rw [h1_] at h2_; injection h2_ with h2_; injection h2_ with _ h2_ _; exact absurd h2_ (by decide))⟩)); rintro e w12 ⟨rfl, rv12, h1, h2, h3, h4⟩; have BR12 := Aside0.mk h1; have BB12 := Aside0.mk h2; have HR12 := Aside0.mk h3; have HB12 := Aside0.mk h4; clear h1 h2 h3 h4 BR11 BB11 HR11 HB11 HO11)
          | (go_at_call 67; refine (lay_calls w _ gr gb 0 _ (layF 0 (layF 0 ([⟨0, 0⟩] : List S84) ([1, (data.length : Int) / 256 % 256, (data.length : Int) % 256] : List Int)) (fourF (sumF 1 data))) A1 c1 data HB12.out GR.out BR12.out BB12.out HR12.out ?f12 (by rw [layF_len, layF_len]; have := HDL.out; simp [fourF]; omega) HBB.out).mono ?_; (case f12 => exact Kd.F_mono (Kd.F_below (Kd.C_F (Kd.heap_int .u8) HR1.out) HB12.out) (fun k hk => ⟨fun e => by have := GR.out; omega, fun e => by have := Kd.R_base HR12.out k e.symm; omega⟩)); rintro e w13 ⟨rfl, rv13, h1, h2, h3, h4⟩; have BR13 := Aside0.mk h1; have BB13 := Aside0.mk h2; have HR13 := Aside0.mk h3; have HB13 := Aside0.mk h4; clear h1 h2 h3 h4 BR12 BB12 HR12 HB12; have hz13 := (blk_cell BR13.out 0).trans rfl; have hb13 := (blk_cell BB13.out 0).trans rfl)
          | ((with_reducible refine gate_builtin (b := .append) (xs := #[.tmp 62, .tmp 65]) rfl ?_); at_builtin; refine Kd.R_append k84 (w0 := w) w.heap.size rfl (.tmp 62) (.tmp 65) 48 84 (.agg #[(.int .i64 0), (.int .u8 0)]) 16 rfl Tryd.underlying48 info84 rfl (by decide) (by omega) rv13 (layF 0 (layF 0 (layF 0 ([⟨0, 0⟩] : List S84) ([1, (data.length : Int) / 256 % 256, (data.length : Int) % 256] : List Int)) (fourF (sumF 1 data))) data) (⟨0, 165⟩ : S84) [.int .i64 0, .int .u8 165] (fun _ => True) (fun _ => False) rfl (by first | (go_simp; done) | (go_simp; rfl)) ?aP (fun _ hk => hk.elim) ?aF ?aO ?aB ?aS ?aL ?_; (case aP => exact k84_mkM _ _ _ (⟨0, 165⟩ : S84)); (case aB => exact HB13.out); (case aF => exact (fun _ _ => trivial)); (case aO => exact HR13.out); (case aS => exact HB13.out.size); (case aL => rw [layF_len, layF_len, layF_len]; have := HDL.out; simp [fourF]; omega); intro v14 w14 ho hb hg hat; have HR14 := Aside0.mk ho; have HB14 := Aside0.mk hb; clear hz13 hb13 ho hb hg hat))
        go_ret2
        rw [HRr.out]
        exact ⟨_, rfl, HR14.out, HB14.out⟩
    · rw [if_neg hd] at hR
      have hlt : decide ((248 : Int) < (data.length : Int)) = true := decide_eq_true (by omega)
      have HRr := Aside0.mk hR
      clear hR hk hok hL hZ hLl hLb hkc hd hl hr0 hc0 hr1 hc1 hb0
      go_enter Tryd.func53, Tryd.ntmps53
      go_wp2_with (first
        | (go_at_call 65; (with_reducible refine HBo.out.mono ?_); rintro e w1 ⟨rfl, hb⟩; have HB := Aside0.mk (below_step (Below.refl _ _) hb); clear hb)
        | ((with_reducible refine gate_dst (N := 6) rfl ?_); refine box_event ?hg (N := 6) ?hd (cs := Z.toArray) (t := 92) ?hr ?_; (case hd => rfl); (case hg => rfl); (case hr => have hZ2 := HZ.out; first | (go_simp; done) | (go_simp; rfl)); intro ga hg w2 hbox hb; have BK := Aside0.mk hbox; have GA := Aside0.mk (show w.heap.size ≤ ga from hg ▸ HB.out.size); have HB2 := Aside0.mk (below_step HB.out hb); clear hbox hb hg HB)
        | ((with_reducible refine gate_ (.store 92 (.tmp 6) (.tmp 17)) rfl ?_); refine wpList_store_arr (w0 := w) rfl 92 (.tmp 6) (.tmp 17) rfl ga 0 (byteCells L) rfl rfl ?ht (by rw [HLC.out]; exact size50) (byteCells_one L) HB2.out GA.out ?_; (case ht => exact fun j hj => ⟨by rw [blk_cell BK.out]; have := HLC.out; have := HZL.out; simp; omega, blk_frozen BK.out _⟩); intro w3 hrg hb _; have HC3 := Aside0.mk (C_of_range (L := L) (n := 512) hrg HLL.out (by decide)); have HB3 := Aside0.mk hb; clear hrg hb BK HB2)
        | (go_at_call 66; (with_reducible refine (HCo.out ga _ ?cc).mono ?_); (case cc => exact HC3.out); rintro e w4 ⟨rfl, hb⟩; have HC4 := Aside0.mk (Kd.C_below HC3.out hb); have HB4 := Aside0.mk (below_step HB3.out hb); clear hb))
      go_ret2
      rw [HRr.out]
      exact ⟨_, rfl, Kd.R_nil _ _ _ _ _, HB3.out⟩
  · obtain rfl : ok = false := by rw [hok]; exact decide_eq_false hl
    unfold planF at hR
    rw [if_neg hl] at hR
    have HRr := Aside0.mk hR
    clear hR hk hok hL hZ hLl hLb hkc hl hr0 hc0 hr1 hc1 hb0
    go_enter Tryd.func53, Tryd.ntmps53
    go_wp2_with (first
      | (go_at_call 65; (with_reducible refine HBo.out.mono ?_); rintro e w1 ⟨rfl, hb⟩; have HB := Aside0.mk (below_step (Below.refl _ _) hb); clear hb)
      | ((with_reducible refine gate_dst (N := 6) rfl ?_); refine box_event ?hg (N := 6) ?hd (cs := Z.toArray) (t := 92) ?hr ?_; (case hd => rfl); (case hg => rfl); (case hr => have hZ2 := HZ.out; first | (go_simp; done) | (go_simp; rfl)); intro ga hg w2 hbox hb; have BK := Aside0.mk hbox; have GA := Aside0.mk (show w.heap.size ≤ ga from hg ▸ HB.out.size); have HB2 := Aside0.mk (below_step HB.out hb); clear hbox hb hg HB)
      | ((with_reducible refine gate_ (.store 92 (.tmp 6) (.tmp 17)) rfl ?_); refine wpList_store_arr (w0 := w) rfl 92 (.tmp 6) (.tmp 17) rfl ga 0 (byteCells L) rfl rfl ?ht (by rw [HLC.out]; exact size50) (byteCells_one L) HB2.out GA.out ?_; (case ht => exact fun j hj => ⟨by rw [blk_cell BK.out]; have := HLC.out; have := HZL.out; simp; omega, blk_frozen BK.out _⟩); intro w3 hrg hb _; have HC3 := Aside0.mk (C_of_range (L := L) (n := 512) hrg HLL.out (by decide)); have HB3 := Aside0.mk hb; clear hrg hb BK HB2)
      | (go_at_call 66; (with_reducible refine (HCo.out ga _ ?cc).mono ?_); (case cc => exact HC3.out); rintro e w4 ⟨rfl, hb⟩; have HC4 := Aside0.mk (Kd.C_below HC3.out hb); have HB4 := Aside0.mk (below_step HB3.out hb); clear hb))
    go_ret2
    rw [HRr.out]
    exact ⟨_, rfl, Kd.R_nil _ _ _ _ _, HB3.out⟩
end Go.Proofs.YtefhngadeimklaaDoor.Q
end
section
namespace Go.Proofs.YtefhngadeimklaaDoor.Q
open Go.RowKit Go.Proofs.YtefhngadeimklaaDoorW.PrintWords Go.Proofs.YtefhngadeimklaaDoorW.PrintLast Go.Proofs.YtefhngadeimklaaDoorW.PrintMore
/-- What nvram.Plan answers. -/
def nvram_Plan.f (l0 l1 : List Int) : Option (List S84 × Int) := if bytesB l0 = true then some (planF l0 l1) else none
theorem nvram_Plan.calls (A0 : Option Addr) (c0 : Nat) (l0 : List Int) (A1 : Option Addr) (c1 : Nat) (l1 : List Int) (r1 : List S84) (r2 : Int) (w : World) (hr0 : Kd.C (Kd.int .u8) w A0 l0.length l0) (hc0 : l0.length ≤ c0) (hr1 : Kd.C (Kd.int .u8) w A1 l1.length l1) (hc1 : l1.length ≤ c1) (h : nvram_Plan.f l0 l1 = some (r1, r2)) :
    Calls Tryd.prog 53 #[.slice A0 l0.length c0, .slice A1 l1.length c1] w fun e w' => ∃ v0_ : Value, e = .returned (.tuple #[v0_, .int .i64 r2]) ∧ Kd.R k84 84 w' w.heap.size (fun _ => True) v0_ r1 ∧ Below w.heap.size w w' := by
  unfold nvram_Plan.f at h
  split at h
  · rename_i hb
    have e := Option.some.inj h
    have h2 := plan_calls A0 c0 l0 A1 c1 l1 w hr0 hc0 (bytesB_iff.1 hb) hr1 hc1
    rw [e] at h2
    exact h2
  · cases h
end Go.Proofs.YtefhngadeimklaaDoor.Q
end
section
namespace Go.Proofs.YtefhngadeimklaaDoor.Q
open Go.RowKit Go.Proofs.YtefhngadeimklaaDoorW.PrintWords Go.Proofs.YtefhngadeimklaaDoorW.PrintLast Go.Proofs.YtefhngadeimklaaDoorW.PrintMore
theorem fold_range (l : List Int) : ∀ h : Int, (0 ≤ h ∧ h < 4294967296) → 0 ≤ l.foldl stepF h ∧ l.foldl stepF h < 4294967296 := by
  induction l with
  | nil => intro h hh; exact hh
  | cons c l ih => intro h _; exact ih _ (stepF_range h c)
theorem sumF_range (g : Int) (l : List Int) : 0 ≤ sumF g l ∧ sumF g l < 4294967296 := fold_range l _ (stepF_range _ _)
theorem four_be (M : List Int) (hM : M.length = 4) (hb : nv_Bytes M) (s : Int) (hs : 0 ≤ s ∧ s < 4294967296) : (M.foldl beStep 0 == s) = decide (fourF s = M) := by
  obtain ⟨a, b, c, d, rfl⟩ : ∃ a b c d, M = [a, b, c, d] := by
    match M, hM with
    | [a, b, c, d], _ => exact ⟨a, b, c, d, rfl⟩
  have ha := hb a (by simp)
  have hb' := hb b (by simp)
  have hc := hb c (by simp)
  have hd := hb d (by simp)
  rw [Bool.eq_iff_iff, beq_iff_eq, decide_eq_true_iff]
  simp only [List.foldl_cons, List.foldl_nil, beStep, fourF, List.cons.injEq, and_true]
  omega
theorem bank_eq (B : List Int) (hB : B.length = 256) (hb : nv_Bytes B) : bankR B = (if rd B 0 = 165 ∧ lenF B ≤ 248 then rd B 1 else 0, (dataF B).1, (dataF B).2) := by
  unfold bankR dataF
  split
  · rw [show beF (B.drop 4) = ((B.drop 4).take 4).foldl beStep 0 from rfl, four_be _ (by rw [List.length_take, List.length_drop]; omega) ((hb.drop _).take _) _ (sumF_range _ _)]
  · rfl
theorem bank_gen (B : List Int) (hB : B.length = 256) (hb : nv_Bytes B) (h : (dataF B).2 = true) : (bankR B).1 = rd B 1 := by
  rw [bank_eq B hB hb]
  unfold dataF at h
  split at h
  · rename_i h2
    rw [if_pos h2]
  · cases h
theorem rd_take (L : List Int) (n : Nat) (i : Int) (h : i.toNat < n) : rd (L.take n) i = rd L i := by simp [rd, List.getD_eq_getElem?_getD, h]
theorem rd_drop (L : List Int) (n i : Nat) : rd (L.drop n) i = rd L ((n + i : Nat) : Int) := by
  unfold rd
  rw [Int.toNat_natCast, Int.toNat_natCast]
  simp [List.getD_eq_getElem?_getD, List.getElem?_drop]
theorem counts_eq (L : List Int) (hL : L.length = 512) (hb : nv_Bytes L) : (countsR L).1 = countsF L ∧ ((countsR L).2 + 1) % 256 = genF L := by
  have e0 : bankF L 0 = L.take 256 := rfl
  have e1 : bankF L 1 = L.drop 256 := rfl
  have l0 : (L.take 256).length = 256 := by rw [List.length_take]; omega
  have l1 : (L.drop 256).length = 256 := by rw [List.length_drop]; omega
  have x0 : (bankR (L.take 256)).2.2 = (dataF (L.take 256)).2 := by rw [bank_eq _ l0 (hb.take _)]
  have x1 : (bankR (L.drop 256)).2.2 = (dataF (L.drop 256)).2 := by rw [bank_eq _ l1 (hb.drop _)]
  have g0 := bank_gen _ l0 (hb.take _)
  have g1 := bank_gen _ l1 (hb.drop _)
  have r0 : rd (L.take 256) 1 = rd L 1 := rd_take L 256 1 (by decide)
  have r1 : rd (L.drop 256) 1 = rd L 257 := rd_drop L 256 1
  rw [r0] at g0
  rw [r1] at g1
  have hg : genF L = if 0 ≤ countsF L then (rd L (countsF L * 256 + 1) + 1) % 256 else 1 := rfl
  rw [hg]
  unfold countsR countsF
  rw [e0, e1, x0, x1]
  cases hx : (dataF (L.take 256)).2
  · cases hy : (dataF (L.drop 256)).2
    · simp
    · simp [g1 hy]
  · cases hy : (dataF (L.drop 256)).2
    · simp [g0 hx]
    · rw [g0 hx, g1 hy]
      by_cases he : rd L 257 = (rd L 1 + 1) % 256
      · simp [he]
      · simp [he]
theorem rec_eq (nv : List Int) (hb : nv_Bytes nv) : recR nv = recF nv := by
  unfold recR recF
  by_cases hl : nv.length = 512
  · have h := (counts_eq nv hl hb).1
    rw [if_pos hl, h]
    by_cases hk : 0 ≤ countsF nv
    · rw [if_pos hk, if_pos ⟨hl, hk⟩, bank_eq _ (bankF_len hl _) (bankF_bytes hb _)]
    · rw [if_neg hk, if_neg (fun x => hk x.2)]
  · rw [if_neg hl, if_neg (fun x => hl x.1)]
end Go.Proofs.YtefhngadeimklaaDoor.Q
end
section
namespace Go.Proofs.YtefhngadeimklaaDoor.Q
open Go.RowKit Go.Proofs.YtefhngadeimklaaDoorW.PrintWords Go.Proofs.YtefhngadeimklaaDoorW.PrintLast Go.Proofs.YtefhngadeimklaaDoorW.PrintMore
set_option linter.unusedVariables false
set_option linter.unusedSimpArgs false

attribute [local go_sem] max2_int min2_int max_two min_two max_three min_three max_four min_four
/-! ### tinderref05_EncodeInt: function 71 -/
def tinderref05_EncodeInt.l0 : Nat → Int → List Int → Int → Option (List Int)
  | 0, _, _, _ => none
  | k + 1, x0, x3, x4 => if x4 ≥ 0 then (if 0 ≤ (IntKind.u64.wrap (wrap64 (8 * x4))) then (if x3.length < 140737488355328 then (tinderref05_EncodeInt.l0 k x0 (x3 ++ [(Int.tmod (shr .u32 x0 (IntKind.u64.wrap (wrap64 (8 * x4)))) 256) % 256]) (wrap64 (x4 - 1))) else (none)) else (none)) else (some x3)
def tinderref05_EncodeInt.f (k : Nat) (a0 : Int) : Option (List Int) := tinderref05_EncodeInt.l0 k a0 ([] : List Int) 3
set_option maxHeartbeats 8000000 in
set_option maxRecDepth 100000 in
theorem tinderref05_EncodeInt.calls (k : Nat) (a0 : Int) (r : List Int) (w : World) (h : tinderref05_EncodeInt.f k a0 = some r) :
    Calls Tryd.prog 71 #[.int .u32 a0] w fun e w' => ∃ v0_ : Value, e = .returned (v0_) ∧ Kd.R (Kd.int .u8) 5 w' w.heap.size (fun _ => True) v0_ r ∧ Below w.heap.size w w' := by
  have HB := Aside0.mk (Below.refl w.heap.size w)
  have H : (tinderref05_EncodeInt.l0 k a0 ([] : List Int) 3) = some r := h
  clear h
  have H' := Aside0.mk H
  clear H
  go_enter Tryd.func71, Tryd.ntmps71
  go_wp2
  go_loopg [3, 4] k (fun kq v3 v4 w' => ∃ (x3_1 : List Int) (x4_1 : Int), v4 = .int .i64 x4_1 ∧ Aside0 (tinderref05_EncodeInt.l0 kq a0 x3_1 x4_1 = some r) ∧ Aside0 (kq ≤ k) ∧ Aside0 (Kd.R (Kd.int .u8) 5 w' w.heap.size (fun _ => True) v3 x3_1) ∧ Aside0 (Below w.heap.size w w'))
  case atStart => exact ⟨(([] : List Int)), (3), (by first | rfl | (simp; done) | (simp [*]; done)), H', ⟨Nat.le_refl _⟩, ⟨by first | exact Kd.R_nil _ _ _ _ _ | exact Kd.N_nil _ _ _ _ _ | exact Kd.V_nil _ _ _ _ _ | exact Kd.Q_nil _ _ _ _ _ | exact Kd.S_nil _ _ _ _ _⟩, ⟨by repeat (first | (with_reducible first | exact HB.out | apply below_alloc | apply pw_below_drewN | apply below_drew1) | exact HB.out)⟩⟩
  case round =>
    clear H'
    obtain ⟨x3_1, x4_1, rfl, HA, HK1, HO_3, HB⟩ := hrel
    cases gk with
    | zero => exact absurd HA.out (by simp [tinderref05_EncodeInt.l0])
    | succ k1 =>
      have H := HA.out
      clear HA
      simp only [tinderref05_EncodeInt.l0] at H
      by_cases c2 : x4_1 ≥ 0
      · rw [if_pos c2] at H
        have c2b0 : decide (0 ≤ x4_1) = true := decide_eq_true c2
        clear c2
        obtain ⟨ji3, hji3⟩ : ∃ j_ : Int, (IntKind.u64.wrap (wrap64 (8 * x4_1))) = j_ := ⟨_, rfl⟩
        replace H : (if 0 ≤ (ji3) then (if x3_1.length < 140737488355328 then (tinderref05_EncodeInt.l0 k1 a0 (x3_1 ++ [(Int.tmod (shr .u32 a0 (ji3)) 256) % 256]) (wrap64 (x4_1 - 1))) else (none)) else (none)) = some r := by first | (rw [hji3] at H; exact H) | (simp only [hji3] at H ⊢; exact H)
        by_cases c4 : 0 ≤ (ji3)
        · rw [if_pos c4] at H
          have c4b0 := eq_true c4
          have c4b1 : decide (0 ≤ (ji3)) = true := decide_eq_true c4
          clear c4
          obtain ⟨ji5, hji5⟩ : ∃ j_ : Int, (shr .u32 a0 (ji3)) = j_ := ⟨_, rfl⟩
          replace H : (if x3_1.length < 140737488355328 then (tinderref05_EncodeInt.l0 k1 a0 (x3_1 ++ [(Int.tmod (ji5) 256) % 256]) (wrap64 (x4_1 - 1))) else (none)) = some r := by first | (rw [hji5] at H; exact H) | (simp only [hji5] at H ⊢; exact H)
          have hji5_ : (a0 / 2 ^ min (ji3).toNat 32) = ji5 := hji5
          have hji5z : (ji3) ≤ 32 → (a0 / 2 ^ (ji3).toNat) = ji5 := shr_small hji5
          by_cases c6 : x3_1.length < 140737488355328
          · rw [if_pos c6] at H
            have LMc6 := Aside0.mk c6
            clear c6
            obtain ⟨y72001, hy72001⟩ : ∃ y_ : List Int, y_ = (x3_1 ++ [(Int.tmod (ji5) 256) % 256]) := ⟨_, rfl⟩
            replace H : (tinderref05_EncodeInt.l0 k1 a0 y72001 (wrap64 (x4_1 - 1))) = some r := by first | (rw [hy72001]; with_reducible exact H) | (have H2_ := (Option.bind_some _ _).symm.trans H; rw [hy72001]; with_reducible exact H2_) | (have H2_ := (Option.bind_some _ _).symm.trans H; with_reducible exact H2_) | with_reducible exact H | (rw [hy72001]; exact H) | exact H
            have Ny72001 := Aside0.mk hy72001
            clear hy72001
            have H' := Aside0.mk H
            clear H
            go_wp2_with (first | ((with_reducible refine gate_builtin (b := .append) (xs := #[.tmp 9, .tmp 17]) rfl ?_); at_builtin; refine Kd.R_append (Kd.int .u8) (w0 := w) w.heap.size rfl (.tmp 9) (.tmp 17) 42 5 (.int .u8 0) 1 rfl Tryd.underlying42 info5 rfl (by decide) (by omega) u3 x3_1 ((Int.tmod (ji5) 256) % 256) [.int .u8 ((Int.tmod (ji5) 256) % 256)] (fun _ => True) (fun _ => False) rfl rfl ?aP (fun _ hk => hk.elim) ?aF ?aO ?aB ?aS ?aL ?_; (case aP => exact rfl); (case aB => exact (by repeat (first | (with_reducible first | exact HB.out | apply below_alloc | apply pw_below_drewN | apply below_drew1) | exact HB.out))); (case aF => exact (fun _ _ => trivial)); (case aO => exact (by (with_reducible repeat (first | apply Kd.R_alloc | apply Kd.R_drewN | apply Kd.R_drew)); exact HO_3.out)); (case aS => exact (below_size (by repeat (first | (with_reducible first | exact HB.out | apply below_alloc | apply pw_below_drewN | apply below_drew1) | exact HB.out)))); (case aL => have := LMc6.out; omega); intro v72002 w7 ho hb hg hat; rw [← Ny72001.out] at ho; have n0_ := Aside0.mk (hb); have n1_ := Aside0.mk (ho); clear HB; clear HO_3; have HB := n0_; have HO72003 := n1_; clear n0_ n1_; clear ho hb hg hat))
            go_roundg k1
            case measure => have := HK1.out; omega
            case rel => exact ⟨(y72001), (wrap64 (x4_1 - 1)), (by first | rfl | (simp; done) | (simp [*]; done)), H', ⟨by have := HK1.out; omega⟩, ⟨by (with_reducible repeat (first | apply Kd.R_alloc | apply Kd.R_drewN | apply Kd.R_drew)); exact HO72003.out⟩, ⟨by repeat (first | (with_reducible first | exact HB.out | apply below_alloc | apply pw_below_drewN | apply below_drew1) | exact HB.out)⟩⟩
          · rw [if_neg c6] at H
            exact absurd H (by simp)
        · rw [if_neg c4] at H
          exact absurd H (by simp)
      · rw [if_neg c2] at H
        have c2b0 : decide (0 ≤ x4_1) = false := decide_eq_false c2
        clear c2
        obtain rfl := Option.some.inj H
        go_wp2
        go_ret
        exact ⟨_, by first | rfl | (simp [errW_none, errW_some] <;> rfl) | (simp [*, errW_none, errW_some] <;> rfl), by (with_reducible repeat (first | apply Kd.R_alloc | apply Kd.R_drewN | apply Kd.R_drew)); exact HO_3.out, by repeat (first | (with_reducible first | exact HB.out | apply below_alloc | apply pw_below_drewN | apply below_drew1) | exact HB.out)⟩

end Go.Proofs.YtefhngadeimklaaDoor.Q
end
section
namespace Go.Proofs.YtefhngadeimklaaDoor.Q
open Go.RowKit Go.Proofs.YtefhngadeimklaaDoorW.PrintWords Go.Proofs.YtefhngadeimklaaDoorW.PrintLast Go.Proofs.YtefhngadeimklaaDoorW.PrintMore
set_option linter.unusedVariables false
set_option linter.unusedSimpArgs false

attribute [local go_sem] max2_int min2_int max_two min_two max_three min_three max_four min_four
/-! ### tinderref18_Plan: function 54 -/
mutual
def tinderref18_Plan.j0 : Nat → List Int → Int → Int → Option ((List (S84)) × Int)
  | 0, _, _, _ => none
  | k + 1, x1, x7, x8 => (some (([x7, 0, ((x1.length : Int)) % 256] : List Int) : List Int)).bind fun y55003 => ((tinderref18_Sum.f k x7 x1).bind fun t55006 => ((tinderref05_EncodeInt.f k t55006).bind fun t55007 => (if y55003.length + t55007.length < 140737488355328 then ((some (y55003 ++ t55007 : List Int)).bind fun y55010 => (if y55010.length + x1.length < 140737488355328 then (tinderref18_Plan.l0 k x8 (y55010 ++ x1) (([(⟨x8, 0⟩ : S84)] : List (S84))) 0) else (none))) else (none))))
def tinderref18_Plan.l0 : Nat → Int → List Int → List (S84) → Int → Option ((List (S84)) × Int)
  | 0, _, _, _, _ => none
  | k + 1, x8, x9, x10, x11 => if x11 < (x9.length : Int) then (if 0 ≤ x11 then (if x10.length < 8796093022208 then (tinderref18_Plan.l0 k x8 x9 (x10 ++ [(⟨wrap64 ((wrap64 (x8 + 1)) + x11), rd x9 x11⟩ : S84)]) (wrap64 (x11 + 1))) else (none)) else (none)) else (if x10.length < 8796093022208 then (some ((x10 ++ [(⟨x8, 165⟩ : S84)]), 0)) else (none))
end
def tinderref18_Plan.f (k : Nat) (l0 : List Int) (l1 : List Int) : Option ((List (S84)) × Int) := if (l0.length : Int) = 512 then (if (l1.length : Int) > 248 then (some (([] : List (S84)), 3)) else ((tinderref18_Counts.f l0).bind fun bt55001 => (if bt55001.1 = 0 then (tinderref18_Plan.j0 k l1 ((bt55001.2 + 1) % 256) 256) else (tinderref18_Plan.j0 k l1 ((bt55001.2 + 1) % 256) 0)))) else (some (([] : List (S84)), 1))
set_option maxHeartbeats 8000000 in
set_option maxRecDepth 100000 in
theorem tinderref18_Plan.calls (k : Nat) (A0 : Option Addr) (c0 : Nat) (l0 : List Int) (A1 : Option Addr) (c1 : Nat) (l1 : List Int) (r1 : List (S84)) (r2 : Int) (w : World) (hr0 : Kd.C (Kd.int .u8) w A0 l0.length l0) (hc0 : l0.length ≤ c0) (hr1 : Kd.C (Kd.int .u8) w A1 l1.length l1) (hc1 : l1.length ≤ c1) (h : tinderref18_Plan.f k l0 l1 = some (r1, r2)) :
    Calls Tryd.prog 54 #[.slice A0 l0.length c0, .slice A1 l1.length c1] w fun e w' => ∃ v0_ : Value, e = .returned (.tuple #[v0_, .int .i64 r2]) ∧ Kd.R k84 84 w' w.heap.size (fun _ => True) v0_ r1 ∧ Below w.heap.size w w' := by
  have hu84 := Tryd.underlying84
  have HR0 := Aside0.mk hr0
  have HC0 := Aside0.mk hc0
  clear hr0 hc0
  have HR1 := Aside0.mk hr1
  have HC1 := Aside0.mk hc1
  clear hr1 hc1
  have HB := Aside0.mk (Below.refl w.heap.size w)
  have H : (if (l0.length : Int) = 512 then (if (l1.length : Int) > 248 then (some (([] : List (S84)), 3)) else ((tinderref18_Counts.f l0).bind fun bt55001 => (if bt55001.1 = 0 then (tinderref18_Plan.j0 k l1 ((bt55001.2 + 1) % 256) 256) else (tinderref18_Plan.j0 k l1 ((bt55001.2 + 1) % 256) 0)))) else (some (([] : List (S84)), 1))) = some (r1, r2) := h
  clear h
  by_cases c3 : (l0.length : Int) = 512
  · rw [if_pos c3] at H
    have c3b0 : ((l0.length : Int) == 512) = true := beq_iff_eq.mpr c3
    have c3b1 : ((l0.length : Int) != 512) = false := bne_eq_false_iff_eq.mpr c3
    clear c3
    by_cases c4 : (l1.length : Int) > 248
    · rw [if_pos c4] at H
      have c4b0 : decide (248 < (l1.length : Int)) = true := decide_eq_true c4
      have c4b1 : decide (248 < l1.length) = true := decide_eq_true (by omega)
      clear c4
      simp only [Option.some.injEq, Prod.mk.injEq] at H
      obtain ⟨rfl, rfl⟩ := H
      go_enter Tryd.func54, Tryd.ntmps54
      go_wp2
      go_ret2
      exact ⟨_, by first | rfl | (simp [errW_none, errW_some] <;> rfl) | (simp [*, errW_none, errW_some] <;> rfl), by first | exact Kd.R_nil _ _ _ _ _ | exact Kd.N_nil _ _ _ _ _ | exact Kd.V_nil _ _ _ _ _ | exact Kd.Q_nil _ _ _ _ _ | exact Kd.S_nil _ _ _ _ _, by repeat (first | (with_reducible first | exact HB.out | apply below_alloc | apply pw_below_drewN | apply below_drew1) | exact HB.out)⟩
    · rw [if_neg c4] at H
      have c4b0 : decide (248 < (l1.length : Int)) = false := decide_eq_false c4
      have c4b1 : decide (248 < l1.length) = false := decide_eq_false (by omega)
      clear c4
      replace H := Option.bind_eq_some_iff.mp H
      obtain ⟨⟨t55001, t55002⟩, A50, H⟩ := H
      replace H : (if t55001 = 0 then (tinderref18_Plan.j0 k l1 ((t55002 + 1) % 256) 256) else (tinderref18_Plan.j0 k l1 ((t55002 + 1) % 256) 0)) = some (r1, r2) := H
      have A5 := Aside0.mk A50
      clear A50
      have HC6 := Aside0.mk H
      clear H
      go_enter Tryd.func54, Tryd.ntmps54
      go_upto_if 26 with (first | ((with_reducible refine gate_callee (f := 70) rfl ?_); refine goesL_ (some 20) rfl rfl Tryd.func70 (by kernel_rfl) rfl #[.slice A0 l0.length c0] rfl (by (try simp only [List.map_toArray, List.map_cons, List.map_nil]); first | done | rfl | (simp only [List.length_drop, List.length_take]; rfl)) ?_; (with_reducible refine (tinderref18_Counts.calls _ _ l0 t55001 t55002 _ ?side1 ?side2 A5.out).mono ?_); (case side1 => repeat (first | exact HR0.out | (with_reducible refine Kd.C_alloc ?_ _) | (with_reducible refine Kd.C_drewN ?_ _) | (with_reducible refine Kd.C_drew ?_))); (case side2 => exact HC0.out); rintro e w7 ⟨rfl, hb⟩; refine ⟨_, rfl, ?_⟩; have n0_ := Aside0.mk (below_step (by repeat (first | (with_reducible first | exact HB.out | apply below_alloc | apply pw_below_drewN | apply below_drew1) | exact HB.out)) hb); clear HB; have HB := n0_; clear n0_; (try clear hb); (try clear hb2); (try clear hk); (try clear hi)))
      (try simp only [Act.put, List.setIfInBounds_toArray, List.set_cons_zero, List.set_cons_succ])
      go_cut [8] (fun v8 wc => ∃ (kq : Nat) (x8_5 : Int), v8 = .int .i64 x8_5 ∧ Aside0 (tinderref18_Plan.j0 kq l1 ((t55002 + 1) % 256) x8_5 = some (r1, r2)) ∧ Aside0 (kq ≤ k) ∧ Aside0 (Below w.heap.size w wc))
      case first =>
        have H := HC6.out
        clear HC6
        by_cases c8 : t55001 = 0
        · rw [if_pos c8] at H
          have c8b0 : (t55001 == 0) = true := beq_iff_eq.mpr c8
          have c8b1 : (t55001 != 0) = false := bne_eq_false_iff_eq.mpr c8
          clear c8
          (first | rw [c8b0] | (simp only [i64_w, i32_w]; rw [c8b0]) | skip)
          have H' := Aside0.mk H
          clear H
          go_wp2
          go_meet
          case rel => exact ⟨_, (256), (by first | rfl | (simp; done) | (simp [*]; done)), H', ⟨by first | omega | exact Nat.le_refl _⟩, ⟨by repeat (first | (with_reducible first | exact HB.out | apply below_alloc | apply pw_below_drewN | apply below_drew1) | exact HB.out)⟩⟩
        · rw [if_neg c8] at H
          have c8b0 : (t55001 == 0) = false := beq_eq_false_iff_ne.mpr c8
          have c8b1 : (t55001 != 0) = true := bne_iff_ne.mpr c8
          (first | rw [c8b0] | (simp only [i64_w, i32_w]; rw [c8b0]) | skip)
          have H' := Aside0.mk H
          clear H
          go_wp2
          go_meet
          case rel => exact ⟨_, (0), (by first | rfl | (simp; done) | (simp [*]; done)), H', ⟨by first | omega | exact Nat.le_refl _⟩, ⟨by repeat (first | (with_reducible first | exact HB.out | apply below_alloc | apply pw_below_drewN | apply below_drew1) | exact HB.out)⟩⟩
      case rest =>
        clear HC6
        try clear c1
        try clear p2
        try clear c3
        try clear c3b0
        try clear c3b1
        try clear c4
        try clear c4b0
        try clear c4b1
        try clear c5
        try clear c7
        try clear c8
        try clear c8b0
        try clear c8b1
        obtain ⟨kq, x8_5, rfl, HA, HJ5, HB⟩ := hcut
        cases kq with
        | zero => exact absurd HA.out (by simp [tinderref18_Plan.j0])
        | succ kj5 =>
          have H := HA.out
          clear HA
          simp only [tinderref18_Plan.j0] at H
          obtain ⟨y55003, hy55003⟩ : ∃ y_ : List Int, y_ = (([((t55002 + 1) % 256), 0, ((l1.length : Int)) % 256] : List Int)) := ⟨_, rfl⟩
          replace H : ((tinderref18_Sum.f kj5 ((t55002 + 1) % 256) l1).bind fun t55006 => ((tinderref05_EncodeInt.f kj5 t55006).bind fun t55007 => (if y55003.length + t55007.length < 140737488355328 then ((some (y55003 ++ t55007 : List Int)).bind fun y55010 => (if y55010.length + l1.length < 140737488355328 then (tinderref18_Plan.l0 kj5 x8_5 (y55010 ++ l1) (([(⟨x8_5, 0⟩ : S84)] : List (S84))) 0) else (none))) else (none)))) = some (r1, r2) := by first | (rw [hy55003]; with_reducible exact H) | (have H2_ := (Option.bind_some _ _).symm.trans H; rw [hy55003]; with_reducible exact H2_) | (have H2_ := (Option.bind_some _ _).symm.trans H; with_reducible exact H2_) | with_reducible exact H | (rw [hy55003]; exact H) | exact H
          have Ny55003 := Aside0.mk hy55003
          clear hy55003
          replace H := Option.bind_eq_some_iff.mp H
          obtain ⟨t55006, A90, H⟩ := H
          replace H : ((tinderref05_EncodeInt.f kj5 t55006).bind fun t55007 => (if y55003.length + t55007.length < 140737488355328 then ((some (y55003 ++ t55007 : List Int)).bind fun y55010 => (if y55010.length + l1.length < 140737488355328 then (tinderref18_Plan.l0 kj5 x8_5 (y55010 ++ l1) (([(⟨x8_5, 0⟩ : S84)] : List (S84))) 0) else (none))) else (none))) = some (r1, r2) := H
          have A9 := Aside0.mk A90
          clear A90
          replace H := Option.bind_eq_some_iff.mp H
          obtain ⟨t55007, A100, H⟩ := H
          replace H : (if y55003.length + t55007.length < 140737488355328 then ((some (y55003 ++ t55007 : List Int)).bind fun y55010 => (if y55010.length + l1.length < 140737488355328 then (tinderref18_Plan.l0 kj5 x8_5 (y55010 ++ l1) (([(⟨x8_5, 0⟩ : S84)] : List (S84))) 0) else (none))) else (none)) = some (r1, r2) := H
          have A10 := Aside0.mk A100
          clear A100
          by_cases c11 : y55003.length + t55007.length < 140737488355328
          · rw [if_pos c11] at H
            have LMc11 := Aside0.mk c11
            clear c11
            obtain ⟨y55010, hy55010⟩ : ∃ y_ : List Int, y_ = (y55003 ++ t55007) := ⟨_, rfl⟩
            replace H : (if y55010.length + l1.length < 140737488355328 then (tinderref18_Plan.l0 kj5 x8_5 (y55010 ++ l1) (([(⟨x8_5, 0⟩ : S84)] : List (S84))) 0) else (none)) = some (r1, r2) := by first | (rw [hy55010]; with_reducible exact H) | (have H2_ := (Option.bind_some _ _).symm.trans H; rw [hy55010]; with_reducible exact H2_) | (have H2_ := (Option.bind_some _ _).symm.trans H; with_reducible exact H2_) | with_reducible exact H | (rw [hy55010]; exact H) | exact H
            have Ny55010 := Aside0.mk hy55010
            clear hy55010
            by_cases c12 : y55010.length + l1.length < 140737488355328
            · rw [if_pos c12] at H
              have LMc12 := Aside0.mk c12
              clear c12
              obtain ⟨y55013, hy55013⟩ : ∃ y_ : List Int, y_ = (y55010 ++ l1) := ⟨_, rfl⟩
              replace H : (tinderref18_Plan.l0 kj5 x8_5 y55013 (([(⟨x8_5, 0⟩ : S84)] : List (S84))) 0) = some (r1, r2) := by first | (rw [hy55013]; with_reducible exact H) | (have H2_ := (Option.bind_some _ _).symm.trans H; rw [hy55013]; with_reducible exact H2_) | (have H2_ := (Option.bind_some _ _).symm.trans H; with_reducible exact H2_) | with_reducible exact H | (rw [hy55013]; exact H) | exact H
              have Ny55013 := Aside0.mk hy55013
              clear hy55013
              obtain ⟨y55016, hy55016⟩ : ∃ y_ : List (S84), y_ = (([(⟨x8_5, 0⟩ : S84)] : List (S84))) := ⟨_, rfl⟩
              replace H : (tinderref18_Plan.l0 kj5 x8_5 y55013 y55016 0) = some (r1, r2) := by first | (rw [hy55016]; with_reducible exact H) | (have H2_ := (Option.bind_some _ _).symm.trans H; rw [hy55016]; with_reducible exact H2_) | (have H2_ := (Option.bind_some _ _).symm.trans H; with_reducible exact H2_) | with_reducible exact H | (rw [hy55016]; exact H) | exact H
              have Ny55016 := Aside0.mk hy55016
              clear hy55016
              have H' := Aside0.mk H
              clear H
              go_wp2_with (first | ((with_reducible refine gate_dst (N := 31) rfl ?_); refine Kd.R_lit (Kd.int .u8) _ 5 ?hg (N := 31) ?hd (xs := ([((t55002 + 1) % 256), 0, ((l1.length : Int)) % 256] : List Int)) (inner := [.int .u8 ((t55002 + 1) % 256), .int .u8 0, .int .u8 (((l1.length : Int)) % 256)]) (ok := fun _ => True) (okp := fun _ => True) ?hr ?hp (fun _ hk => hk) trivial (Below.refl _ _) (Nat.le_refl _) (by simp) ?_; (case hd => rfl); (case hg => rfl); (case hr => first | (go_simp; done) | (go_simp; rfl)); (case hp => exact (Reps.one (show Kd.M (Kd.int .u8) _ _ _ ((t55002 + 1) % 256) [.int .u8 ((t55002 + 1) % 256)] from rfl) (Reps.one (show Kd.M (Kd.int .u8) _ _ _ 0 [.int .u8 0] from rfl) (Reps.one (show Kd.M (Kd.int .u8) _ _ _ (((l1.length : Int)) % 256) [.int .u8 (((l1.length : Int)) % 256)] from rfl) (Reps.none _ _))))); intro v55004 w13 ho14 hb hg_ hnew_; clear hg_ hnew_; (first | rw [← Ny55003.out] at ho14 | (simp only [Int.reduceToNat] at ho14; rw [← Ny55003.out] at ho14)); have n0_ := Aside0.mk (Kd.R_lower ho14 (below_size (by repeat (first | (with_reducible first | exact HB.out | apply below_alloc | apply pw_below_drewN | apply below_drew1) | exact HB.out)))); have n1_ := Aside0.mk (below_step (by repeat (first | (with_reducible first | exact HB.out | apply below_alloc | apply pw_below_drewN | apply below_drew1) | exact HB.out)) hb); clear HB; have HO55005 := n0_; have HB := n1_; clear n0_ n1_; clear hb ho14) | ((with_reducible refine gate_callee (f := 72) rfl ?_); refine goesL_ (some 35) rfl rfl Tryd.func72 (by kernel_rfl) rfl #[.int .u8 ((t55002 + 1) % 256), .slice A1 l1.length c1] rfl (by (try simp only [List.map_toArray, List.map_cons, List.map_nil]); first | done | rfl | (simp only [List.length_drop, List.length_take]; rfl)) ?_; (with_reducible refine (tinderref18_Sum.calls kj5 ((t55002 + 1) % 256) _ _ l1 t55006 _ ?side1 ?side2 A9.out).mono ?_); (case side1 => repeat (first | exact (Kd.C_below HR1.out HB.out) | (with_reducible refine Kd.C_alloc ?_ _) | (with_reducible refine Kd.C_drewN ?_ _) | (with_reducible refine Kd.C_drew ?_))); (case side2 => exact HC1.out); rintro e w15 ⟨rfl, hb⟩; refine ⟨_, rfl, ?_⟩; have n0_ := Aside0.mk (Kd.R_below (by (with_reducible repeat (first | apply Kd.R_alloc | apply Kd.R_drewN | apply Kd.R_drew)); exact HO55005.out) hb); have n1_ := Aside0.mk (below_step (by repeat (first | (with_reducible first | exact HB.out | apply below_alloc | apply pw_below_drewN | apply below_drew1) | exact HB.out)) hb); clear HO55005; clear HB; have HO55005 := n0_; have HB := n1_; clear n0_ n1_; (try clear hb); (try clear hb2); (try clear hk); (try clear hi)) | ((with_reducible refine gate_callee (f := 71) rfl ?_); refine goesL_ (some 36) rfl rfl Tryd.func71 (by kernel_rfl) rfl #[.int .u32 t55006] rfl (by (try simp only [List.map_toArray, List.map_cons, List.map_nil]); first | done | rfl | (simp only [List.length_drop, List.length_take]; rfl)) ?_; (with_reducible refine (tinderref05_EncodeInt.calls kj5 t55006 t55007 _ A10.out).mono ?_); rintro e w16 ⟨v55008, rfl, ho0, hb⟩; refine ⟨_, rfl, ?_⟩; have n0_ := Aside0.mk (Kd.R_elder' (by (with_reducible repeat (first | apply Kd.R_alloc | apply Kd.R_drewN | apply Kd.R_drew)); exact HO55005.out) (Kd.R_base ho0) hb); have n1_ := Aside0.mk (Kd.R_lower (Kd.R_new' ho0 (Kd.R_lt (by (with_reducible repeat (first | apply Kd.R_alloc | apply Kd.R_drewN | apply Kd.R_drew)); exact HO55005.out))) (below_size (by repeat (first | (with_reducible first | exact HB.out | apply below_alloc | apply pw_below_drewN | apply below_drew1) | exact HB.out)))); have n2_ := Aside0.mk (below_step (by repeat (first | (with_reducible first | exact HB.out | apply below_alloc | apply pw_below_drewN | apply below_drew1) | exact HB.out)) hb); clear HO55005; clear HB; have HO55005 := n0_; have HO55009 := n1_; have HB := n2_; clear n0_ n1_ n2_; (try clear hb); (try clear hb2); (try clear hk); (try clear hi); (try clear ho0); obtain ⟨Ao18, co18, eo18⟩ := Kd.R_slice HO55009.out; subst eo18) | ((with_reducible refine gate_builtin (b := .append) (xs := #[.tmp 32, .tmp 36]) rfl ?_); at_builtin; refine Kd.R_append_rows (Kd.int .u8) (w0 := w) w.heap.size rfl (.tmp 32) (.tmp 36) 42 5 (.int .u8 0) 1 rfl Tryd.underlying42 info5 rfl (by decide) (by omega) v55004 y55003 t55007 _ _ _ (fun k_ => some k_ ≠ (.slice Ao18 t55007.length co18 : Value).ownBlock) (fun _ => False) rfl rfl ?aO ?aR (fun _ _ h => h) (fun _ h => h.elim) ?aF ?aB ?aS ?aL ?_; (case aR => repeat (first | exact (Kd.R_reads' HO55009.out).2.2 | (with_reducible refine Kd.C_alloc ?_ _) | (with_reducible refine Kd.C_drewN ?_ _) | (with_reducible refine Kd.C_drew ?_))); (case aB => exact (by repeat (first | (with_reducible first | exact HB.out | apply below_alloc | apply pw_below_drewN | apply below_drew1) | exact HB.out))); (case aF => exact (fun k_ hk => Kd.fresh' (Kd.R_lt (by (with_reducible repeat (first | apply Kd.R_alloc | apply Kd.R_drewN | apply Kd.R_drew)); exact HO55009.out)) k_ hk)); (case aO => exact (by (with_reducible repeat (first | apply Kd.R_alloc | apply Kd.R_drewN | apply Kd.R_drew)); exact Kd.R_mono HO55005.out (fun _ hk => hk.2))); (case aS => exact (below_size (by repeat (first | (with_reducible first | exact HB.out | apply below_alloc | apply pw_below_drewN | apply below_drew1) | exact HB.out)))); (case aL => have := LMc11.out; omega); intro v55011 w17 ho hb hg hat; rw [← Ny55010.out] at ho; have n0_ := Aside0.mk (Kd.R_after (ok := (fun _ => True)) (by (with_reducible repeat (first | apply Kd.R_alloc | apply Kd.R_drewN | apply Kd.R_drew)); exact HO55009.out) hg hat); have n1_ := Aside0.mk (hb); have n2_ := Aside0.mk (ho); clear HO55009; clear HB; clear HO55005; have HO55009 := n0_; have HB := n1_; have HO55012 := n2_; clear n0_ n1_ n2_; clear ho hb hg hat) | ((with_reducible refine gate_builtin (b := .append) (xs := #[.tmp 38, .tmp 39]) rfl ?_); at_builtin; refine Kd.R_append_rows (Kd.int .u8) (w0 := w) w.heap.size rfl (.tmp 38) (.tmp 39) 42 5 (.int .u8 0) 1 rfl Tryd.underlying42 info5 rfl (by decide) (by omega) v55011 y55010 l1 _ _ _ (fun k_ => some k_ ≠ (.slice Ao18 t55007.length co18 : Value).ownBlock) (fun _ => False) rfl rfl ?aO ?aR (fun _ _ h => h) (fun _ h => h.elim) ?aF ?aB ?aS ?aL ?_; (case aR => repeat (first | exact (Kd.C_below HR1.out HB.out) | (with_reducible refine Kd.C_alloc ?_ _) | (with_reducible refine Kd.C_drewN ?_ _) | (with_reducible refine Kd.C_drew ?_))); (case aB => exact (by repeat (first | (with_reducible first | exact HB.out | apply below_alloc | apply pw_below_drewN | apply below_drew1) | exact HB.out))); (case aF => exact (fun k_ hk => Kd.fresh' (Kd.R_lt (by (with_reducible repeat (first | apply Kd.R_alloc | apply Kd.R_drewN | apply Kd.R_drew)); exact HO55009.out)) k_ hk)); (case aO => exact (by (with_reducible repeat (first | apply Kd.R_alloc | apply Kd.R_drewN | apply Kd.R_drew)); exact HO55012.out)); (case aS => exact (below_size (by repeat (first | (with_reducible first | exact HB.out | apply below_alloc | apply pw_below_drewN | apply below_drew1) | exact HB.out)))); (case aL => have := LMc12.out; omega); intro v55014 w19 ho hb hg hat; rw [← Ny55013.out] at ho; have n0_ := Aside0.mk (Kd.R_after (ok := (fun _ => True)) (by (with_reducible repeat (first | apply Kd.R_alloc | apply Kd.R_drewN | apply Kd.R_drew)); exact HO55009.out) hg hat); have n1_ := Aside0.mk (hb); have n2_ := Aside0.mk (ho); clear HO55009; clear HB; clear HO55012; have HO55009 := n0_; have HB := n1_; have HO55015 := n2_; clear n0_ n1_ n2_; clear ho hb hg hat) | ((with_reducible refine gate_dst (N := 43) rfl ?_); refine Kd.R_lit k84 _ 84 ?hg (N := 43) ?hd (xs := ([(⟨x8_5, 0⟩ : S84)] : List (S84))) (inner := [.int .i64 x8_5, .int .u8 0]) (ok := fun _ => True) (okp := fun _ => True) ?hr ?hp (fun _ hk => hk) trivial (Below.refl _ _) (Nat.le_refl _) (by simp) ?_; (case hd => rfl); (case hg => rfl); (case hr => first | (go_simp; done) | (go_simp; rfl)); (case hp => exact (Reps.c2 (show Kd.M k84 _ _ _ (⟨x8_5, 0⟩ : S84) [.int .i64 x8_5, .int .u8 0] from (k84_mkM _ _ _ (⟨x8_5, 0⟩ : S84) )) (Reps.none _ _))); intro v55017 w20 ho21 hb hg_ hnew_; clear hg_ hnew_; (first | rw [← Ny55016.out] at ho21 | (simp only [Int.reduceToNat] at ho21; rw [← Ny55016.out] at ho21)); have n0_ := Aside0.mk (Kd.R_below (by (with_reducible repeat (first | apply Kd.R_alloc | apply Kd.R_drewN | apply Kd.R_drew)); exact HO55009.out) hb); have n1_ := Aside0.mk (Kd.R_below (by (with_reducible repeat (first | apply Kd.R_alloc | apply Kd.R_drewN | apply Kd.R_drew)); exact HO55015.out) hb); have n2_ := Aside0.mk (Kd.R_lower ho21 (below_size (by repeat (first | (with_reducible first | exact HB.out | apply below_alloc | apply pw_below_drewN | apply below_drew1) | exact HB.out)))); have n3_ := Aside0.mk (below_step (by repeat (first | (with_reducible first | exact HB.out | apply below_alloc | apply pw_below_drewN | apply below_drew1) | exact HB.out)) hb); clear HO55009; clear HO55015; clear HB; have HO55009 := n0_; have HO55015 := n1_; have HO55018 := n2_; have HB := n3_; clear n0_ n1_ n2_ n3_; clear hb ho21))
              go_loopg [10, 11] kj5 (fun kq v10 v11 w' => ∃ (x10_2 : List (S84)) (x11_2 : Int), v11 = .int .i64 x11_2 ∧ Aside0 (tinderref18_Plan.l0 kq x8_5 y55013 x10_2 x11_2 = some (r1, r2)) ∧ Aside0 (kq ≤ kj5) ∧ Aside0 (Kd.R (Kd.int .u8) 5 w' w.heap.size (fun _ => True) v55014 y55013) ∧ Aside0 (Kd.R k84 84 w' w.heap.size (fun _ => True) v10 x10_2) ∧ Aside0 (Below w.heap.size w w'))
              case atStart => exact ⟨(y55016), (0), (by first | rfl | (simp; done) | (simp [*]; done)), H', ⟨Nat.le_refl _⟩, ⟨by (with_reducible repeat (first | apply Kd.R_alloc | apply Kd.R_drewN | apply Kd.R_drew)); exact Kd.R_mono HO55015.out (fun _ hk => trivial)⟩, ⟨by (with_reducible repeat (first | apply Kd.R_alloc | apply Kd.R_drewN | apply Kd.R_drew)); exact HO55018.out⟩, ⟨by repeat (first | (with_reducible first | exact HB.out | apply below_alloc | apply pw_below_drewN | apply below_drew1) | exact HB.out)⟩⟩
              case round =>
                clear H'
                try clear c1
                try clear c2
                try clear p2
                try clear c3
                try clear c3b0
                try clear c3b1
                try clear c4
                try clear c4b0
                try clear c4b1
                try clear c5
                try clear c7
                try clear c8
                try clear c8b0
                try clear c8b1
                try clear c11
                try clear c12
                try clear p2
                obtain ⟨x10_2, x11_2, rfl, HA, HK2, HO_9, HO_10, HB⟩ := hrel
                cases gk with
                | zero => exact absurd HA.out (by simp [tinderref18_Plan.l0])
                | succ k2 =>
                  have H := HA.out
                  clear HA
                  simp only [tinderref18_Plan.l0] at H
                  by_cases c22 : x11_2 < (y55013.length : Int)
                  · rw [if_pos c22] at H
                    have c22b0 : decide (x11_2 < (y55013.length : Int)) = true := decide_eq_true c22
                    clear c22
                    by_cases c23 : 0 ≤ x11_2
                    · rw [if_pos c23] at H
                      have c23b0 : decide (0 ≤ x11_2) = true := decide_eq_true c23
                      clear c23
                      by_cases c24 : x10_2.length < 8796093022208
                      · rw [if_pos c24] at H
                        have LMc24 := Aside0.mk c24
                        clear c24
                        obtain ⟨y55020, hy55020⟩ : ∃ y_ : List (S84), y_ = (x10_2 ++ [(⟨wrap64 ((wrap64 (x8_5 + 1)) + x11_2), rd y55013 x11_2⟩ : S84)]) := ⟨_, rfl⟩
                        replace H : (tinderref18_Plan.l0 k2 x8_5 y55013 y55020 (wrap64 (x11_2 + 1))) = some (r1, r2) := by first | (rw [hy55020]; with_reducible exact H) | (have H2_ := (Option.bind_some _ _).symm.trans H; rw [hy55020]; with_reducible exact H2_) | (have H2_ := (Option.bind_some _ _).symm.trans H; with_reducible exact H2_) | with_reducible exact H | (rw [hy55020]; exact H) | exact H
                        have Ny55020 := Aside0.mk hy55020
                        clear hy55020
                        have H' := Aside0.mk H
                        clear H
                        obtain ⟨Ao25, co25, eo25⟩ := Kd.R_slice HO_9.out
                        subst eo25
                        have p55019 : 0 ≤ (x11_2 : Int) := of_decide_eq_true (by first | (with_reducible assumption) | assumption)
                        have q55019 : x11_2 < (y55013.length : Int) := of_decide_eq_true (by first | (with_reducible assumption) | assumption)
                        obtain ⟨ad55019, e55019, hx55019_0⟩ := Kd.at_int (Kd.R_reads' HO_9.out).2.2 x11_2 p55019 q55019
                        cases e55019
                        replace p55019 := eq_true p55019
                        replace q55019 := eq_true q55019
                        go_wp2_with (first | ((with_reducible refine gate_builtin (b := .append) (xs := #[.tmp 50, .tmp 60]) rfl ?_); at_builtin; refine Kd.R_append k84 (w0 := w) w.heap.size rfl (.tmp 50) (.tmp 60) 48 84 (.agg #[(.int .i64 0), (.int .u8 0)]) 16 rfl Tryd.underlying48 info84 rfl (by decide) (by omega) u10 x10_2 (⟨wrap64 ((wrap64 (x8_5 + 1)) + x11_2), rd y55013 x11_2⟩ : S84) [.int .i64 (wrap64 ((wrap64 (x8_5 + 1)) + x11_2)), .int .u8 (rd y55013 x11_2)] (fun _ => True) (fun _ => False) rfl rfl ?aP (fun _ hk => hk.elim) ?aF ?aO ?aB ?aS ?aL ?_; (case aP => exact k84_mkM _ _ _ (⟨wrap64 ((wrap64 (x8_5 + 1)) + x11_2), rd y55013 x11_2⟩ : S84)); (case aB => exact (by repeat (first | (with_reducible first | exact HB.out | apply below_alloc | apply pw_below_drewN | apply below_drew1) | exact HB.out))); (case aF => exact (fun _ _ => trivial)); (case aO => exact (by (with_reducible repeat (first | apply Kd.R_alloc | apply Kd.R_drewN | apply Kd.R_drew)); exact HO_10.out)); (case aS => exact (below_size (by repeat (first | (with_reducible first | exact HB.out | apply below_alloc | apply pw_below_drewN | apply below_drew1) | exact HB.out)))); (case aL => have := LMc24.out; omega); intro v55021 w26 ho hb hg hat; rw [← Ny55020.out] at ho; have n0_ := Aside0.mk (Kd.R_over' (by (with_reducible repeat (first | apply Kd.R_alloc | apply Kd.R_drewN | apply Kd.R_drew)); exact HO_9.out) (Kd.R_typed (by (with_reducible repeat (first | apply Kd.R_alloc | apply Kd.R_drewN | apply Kd.R_drew)); exact HO_10.out)) (by decide) hg); have n1_ := Aside0.mk (hb); have n2_ := Aside0.mk (ho); clear HO_9; clear HB; clear HO_10; have HO_9 := n0_; have HB := n1_; have HO55022 := n2_; clear n0_ n1_ n2_; clear ho hb hg hat))
                        go_roundg k2
                        case measure => have := HJ5.out; have := HK2.out; omega
                        case rel => exact ⟨(y55020), (wrap64 (x11_2 + 1)), (by first | rfl | (simp; done) | (simp [*]; done)), H', ⟨by have := HJ5.out; have := HK2.out; omega⟩, ⟨by (with_reducible repeat (first | apply Kd.R_alloc | apply Kd.R_drewN | apply Kd.R_drew)); exact HO_9.out⟩, ⟨by (with_reducible repeat (first | apply Kd.R_alloc | apply Kd.R_drewN | apply Kd.R_drew)); exact HO55022.out⟩, ⟨by repeat (first | (with_reducible first | exact HB.out | apply below_alloc | apply pw_below_drewN | apply below_drew1) | exact HB.out)⟩⟩
                      · rw [if_neg c24] at H
                        exact absurd H (by simp)
                    · rw [if_neg c23] at H
                      exact absurd H (by simp)
                  · rw [if_neg c22] at H
                    have c22b0 : decide (x11_2 < (y55013.length : Int)) = false := decide_eq_false c22
                    clear c22
                    by_cases c27 : x10_2.length < 8796093022208
                    · rw [if_pos c27] at H
                      have LMc27 := Aside0.mk c27
                      clear c27
                      obtain ⟨y55023, hy55023⟩ : ∃ y_ : List (S84), y_ = (x10_2 ++ [(⟨x8_5, 165⟩ : S84)]) := ⟨_, rfl⟩
                      replace H : (some (y55023, 0)) = some (r1, r2) := by first | (rw [hy55023]; with_reducible exact H) | (have H2_ := (Option.bind_some _ _).symm.trans H; rw [hy55023]; with_reducible exact H2_) | (have H2_ := (Option.bind_some _ _).symm.trans H; with_reducible exact H2_) | with_reducible exact H | (rw [hy55023]; exact H) | exact H
                      have Ny55023 := Aside0.mk hy55023
                      clear hy55023
                      simp only [Option.some.injEq, Prod.mk.injEq] at H
                      obtain ⟨rfl, rfl⟩ := H
                      obtain ⟨Ao28, co28, eo28⟩ := Kd.R_slice HO_9.out
                      subst eo28
                      go_wp2_with (first | ((with_reducible refine gate_builtin (b := .append) (xs := #[.tmp 62, .tmp 65]) rfl ?_); at_builtin; refine Kd.R_append k84 (w0 := w) w.heap.size rfl (.tmp 62) (.tmp 65) 48 84 (.agg #[(.int .i64 0), (.int .u8 0)]) 16 rfl Tryd.underlying48 info84 rfl (by decide) (by omega) u10 x10_2 (⟨x8_5, 165⟩ : S84) [.int .i64 x8_5, .int .u8 165] (fun _ => True) (fun _ => False) rfl rfl ?aP (fun _ hk => hk.elim) ?aF ?aO ?aB ?aS ?aL ?_; (case aP => exact k84_mkM _ _ _ (⟨x8_5, 165⟩ : S84)); (case aB => exact (by repeat (first | (with_reducible first | exact HB.out | apply below_alloc | apply pw_below_drewN | apply below_drew1) | exact HB.out))); (case aF => exact (fun _ _ => trivial)); (case aO => exact (by (with_reducible repeat (first | apply Kd.R_alloc | apply Kd.R_drewN | apply Kd.R_drew)); exact HO_10.out)); (case aS => exact (below_size (by repeat (first | (with_reducible first | exact HB.out | apply below_alloc | apply pw_below_drewN | apply below_drew1) | exact HB.out)))); (case aL => have := LMc27.out; omega); intro v55024 w29 ho hb hg hat; rw [← Ny55023.out] at ho; have n0_ := Aside0.mk (Kd.R_over' (by (with_reducible repeat (first | apply Kd.R_alloc | apply Kd.R_drewN | apply Kd.R_drew)); exact HO_9.out) (Kd.R_typed (by (with_reducible repeat (first | apply Kd.R_alloc | apply Kd.R_drewN | apply Kd.R_drew)); exact HO_10.out)) (by decide) hg); have n1_ := Aside0.mk (hb); have n2_ := Aside0.mk (ho); clear HO_9; clear HB; clear HO_10; have HO_9 := n0_; have HB := n1_; have HO55025 := n2_; clear n0_ n1_ n2_; clear ho hb hg hat))
                      go_ret2
                      exact ⟨_, by first | rfl | (simp [errW_none, errW_some] <;> rfl) | (simp [*, errW_none, errW_some] <;> rfl), by (with_reducible repeat (first | apply Kd.R_alloc | apply Kd.R_drewN | apply Kd.R_drew)); exact HO55025.out, by repeat (first | (with_reducible first | exact HB.out | apply below_alloc | apply pw_below_drewN | apply below_drew1) | exact HB.out)⟩
                    · rw [if_neg c27] at H
                      exact absurd H (by simp)
            · rw [if_neg c12] at H
              exact absurd H (by simp)
          · rw [if_neg c11] at H
            exact absurd H (by simp)
  · rw [if_neg c3] at H
    have c3b0 : ((l0.length : Int) == 512) = false := beq_eq_false_iff_ne.mpr c3
    have c3b1 : ((l0.length : Int) != 512) = true := bne_iff_ne.mpr c3
    simp only [Option.some.injEq, Prod.mk.injEq] at H
    obtain ⟨rfl, rfl⟩ := H
    go_enter Tryd.func54, Tryd.ntmps54
    go_wp2
    go_ret2
    exact ⟨_, by first | rfl | (simp [errW_none, errW_some] <;> rfl) | (simp [*, errW_none, errW_some] <;> rfl), by first | exact Kd.R_nil _ _ _ _ _ | exact Kd.N_nil _ _ _ _ _ | exact Kd.V_nil _ _ _ _ _ | exact Kd.Q_nil _ _ _ _ _ | exact Kd.S_nil _ _ _ _ _, by repeat (first | (with_reducible first | exact HB.out | apply below_alloc | apply pw_below_drewN | apply below_drew1) | exact HB.out)⟩

end Go.Proofs.YtefhngadeimklaaDoor.Q
end
section
namespace Go.Proofs.YtefhngadeimklaaDoor.Q
open Go.RowKit Go.Proofs.YtefhngadeimklaaDoorW.PrintWords Go.Proofs.YtefhngadeimklaaDoorW.PrintLast Go.Proofs.YtefhngadeimklaaDoorW.PrintMore
set_option linter.unusedVariables false
set_option linter.unusedSimpArgs false

attribute [local go_sem] max2_int min2_int max_two min_two max_three min_three max_four min_four
theorem eqA84 (d : Nat) (w : World) (x0 y0 : Int) (x1 y1 : Int) :
    (Op.equalIn (d + 2) 84 (.agg #[.int .i64 x0, .int .u8 x1]) (.agg #[.int .i64 y0, .int .u8 y1])).run Tryd.prog w = .ok (x0 == y0 && (x1 == y1)) w := by
  refine eqA_of Tryd.underlying84 (by kernel_rfl) ?_
  refine eqf_cons (by rfl) (by go_simp; rfl) (by go_simp; rfl) (by go_simp) ?_
  exact eqf_last (by rfl) (by go_simp; rfl) (by go_simp; rfl) (by go_simp)
end Go.Proofs.YtefhngadeimklaaDoor.Q
end
section
namespace Go.Proofs.YtefhngadeimklaaDoor.Q
open Go.RowKit Go.Proofs.YtefhngadeimklaaDoorW.PrintWords Go.Proofs.YtefhngadeimklaaDoorW.PrintLast Go.Proofs.YtefhngadeimklaaDoorW.PrintMore
set_option linter.unusedVariables false
set_option linter.unusedSimpArgs false

attribute [local go_sem] max2_int min2_int max_two min_two max_three min_three max_four min_four
attribute [local go_sem high] eqA84
/-! ### tinderref18_SameBytes: function 35 -/
def tinderref18_SameBytes.l0 : Nat → List (S84) → List (S84) → Int → Option (Bool)
  | 0, _, _, _ => none
  | k + 1, x0, x1, x5 => if x5 < (x0.length : Int) then (if 0 ≤ x5 then (if x5 < (x1.length : Int) then (if (!(((rd_T84 x0 x5).f0) == ((rd_T84 x1 x5).f0)) || (!(((rd_T84 x0 x5).f1) == ((rd_T84 x1 x5).f1)))) = true then (some false) else (tinderref18_SameBytes.l0 k x0 x1 (wrap64 (x5 + 1)))) else (none)) else (none)) else (some true)
def tinderref18_SameBytes.f (k : Nat) (l0 : List (S84)) (l1 : List (S84)) : Option (Bool) := if (l0.length : Int) = (l1.length : Int) then (tinderref18_SameBytes.l0 k l0 l1 0) else (some false)
set_option maxHeartbeats 8000000 in
set_option maxRecDepth 100000 in
theorem tinderref18_SameBytes.calls (k : Nat) (A0 : Option Addr) (c0 : Nat) (l0 : List (S84)) (A1 : Option Addr) (c1 : Nat) (l1 : List (S84)) (r : Bool) (w : World) (hr0 : Kd.C k84 w A0 l0.length l0) (hc0 : l0.length ≤ c0) (hr1 : Kd.C k84 w A1 l1.length l1) (hc1 : l1.length ≤ c1) (h : tinderref18_SameBytes.f k l0 l1 = some r) :
    Calls Tryd.prog 35 #[.slice A0 l0.length c0, .slice A1 l1.length c1] w fun e w' => e = .returned (.bool r) ∧ Drawn0 w w' := by
  have hu84 := Tryd.underlying84
  have HR0 := Aside0.mk hr0
  have HC0 := Aside0.mk hc0
  clear hr0 hc0
  have HR1 := Aside0.mk hr1
  have HC1 := Aside0.mk hc1
  clear hr1 hc1
  have H : (if (l0.length : Int) = (l1.length : Int) then (tinderref18_SameBytes.l0 k l0 l1 0) else (some false)) = some r := h
  clear h
  by_cases c3 : (l0.length : Int) = (l1.length : Int)
  · rw [if_pos c3] at H
    have c3b0 : ((l0.length : Int) == (l1.length : Int)) = true := beq_iff_eq.mpr c3
    have c3b1 : ((l0.length : Int) != (l1.length : Int)) = false := bne_eq_false_iff_eq.mpr c3
    have c3b2 : (l0.length == l1.length) = true := by first | simpa using c3 | (simp at c3 ⊢; omega)
    clear c3
    have H' := Aside0.mk H
    clear H
    go_enter Tryd.func35, Tryd.ntmps35
    go_wp2
    repeat (go_quiet (fail); try go_wp2)
    go_loopg [5] k (fun kq v5 w' => ∃ (x5_1 : Int), v5 = .int .i64 x5_1 ∧ Aside0 (tinderref18_SameBytes.l0 kq l0 l1 x5_1 = some r) ∧ Aside0 (kq ≤ k) ∧ Drawn0 w w')
    case atStart => exact ⟨(0), (by first | rfl | (simp; done) | (simp [*]; done)), H', ⟨Nat.le_refl _⟩, by repeat (first | exact Drawn0.refl _ | apply Drawn0.step)⟩
    case round =>
      clear H'
      try clear c1
      try clear p2
      try clear c3
      try clear c3b0
      try clear c3b1
      try clear c3b2
      obtain ⟨x5_1, rfl, HA, HK1, ⟨m1, rfl⟩⟩ := hrel
      cases gk with
      | zero => exact absurd HA.out (by simp [tinderref18_SameBytes.l0])
      | succ k1 =>
        have H := HA.out
        clear HA
        simp only [tinderref18_SameBytes.l0] at H
        by_cases c4 : x5_1 < (l0.length : Int)
        · rw [if_pos c4] at H
          have c4b0 : decide (x5_1 < (l0.length : Int)) = true := decide_eq_true c4
          clear c4
          by_cases c5 : 0 ≤ x5_1
          · rw [if_pos c5] at H
            have c5b0 : decide (0 ≤ x5_1) = true := decide_eq_true c5
            clear c5
            by_cases c6 : x5_1 < (l1.length : Int)
            · rw [if_pos c6] at H
              have c6b0 : decide (x5_1 < (l1.length : Int)) = true := decide_eq_true c6
              clear c6
              by_cases c7 : (!(((rd_T84 l0 x5_1).f0) == ((rd_T84 l1 x5_1).f0)) || (!(((rd_T84 l0 x5_1).f1) == ((rd_T84 l1 x5_1).f1)))) = true
              · rw [if_pos c7] at H
                have c7b0 : (!(((rd_T84 l0 x5_1).f0) == ((rd_T84 l1 x5_1).f0)) || (!(((rd_T84 l0 x5_1).f1) == ((rd_T84 l1 x5_1).f1)))) = true := c7
                clear c7
                obtain rfl := Option.some.inj H
                have p36001 : 0 ≤ (x5_1 : Int) := of_decide_eq_true (by first | (with_reducible assumption) | assumption)
                have q36001 : x5_1 < (l0.length : Int) := of_decide_eq_true (by first | (with_reducible assumption) | assumption)
                obtain ⟨ad36001, e36001, hx36001_0, hx36001_1⟩ := at_T84 HR0.out x5_1 p36001 q36001
                cases e36001
                replace p36001 := eq_true p36001
                replace q36001 := eq_true q36001
                have p36002 : 0 ≤ (x5_1 : Int) := of_decide_eq_true (by first | (with_reducible assumption) | assumption)
                have q36002 : x5_1 < (l1.length : Int) := of_decide_eq_true (by first | (with_reducible assumption) | assumption)
                obtain ⟨ad36002, e36002, hx36002_0, hx36002_1⟩ := at_T84 HR1.out x5_1 p36002 q36002
                cases e36002
                replace p36002 := eq_true p36002
                replace q36002 := eq_true q36002
                go_wp2
                repeat (go_quiet (fail); try go_wp2)
                go_ret
                exact ⟨by first | rfl | (simp; done) | (simp [*]; done), by repeat (first | exact Drawn0.refl _ | apply Drawn0.step)⟩
              · rw [if_neg c7] at H
                have c7b0 : (!(((rd_T84 l0 x5_1).f0) == ((rd_T84 l1 x5_1).f0)) || (!(((rd_T84 l0 x5_1).f1) == ((rd_T84 l1 x5_1).f1)))) = false := by simpa using c7
                clear c7
                have H' := Aside0.mk H
                clear H
                have p36001 : 0 ≤ (x5_1 : Int) := of_decide_eq_true (by first | (with_reducible assumption) | assumption)
                have q36001 : x5_1 < (l0.length : Int) := of_decide_eq_true (by first | (with_reducible assumption) | assumption)
                obtain ⟨ad36001, e36001, hx36001_0, hx36001_1⟩ := at_T84 HR0.out x5_1 p36001 q36001
                cases e36001
                replace p36001 := eq_true p36001
                replace q36001 := eq_true q36001
                have p36002 : 0 ≤ (x5_1 : Int) := of_decide_eq_true (by first | (with_reducible assumption) | assumption)
                have q36002 : x5_1 < (l1.length : Int) := of_decide_eq_true (by first | (with_reducible assumption) | assumption)
                obtain ⟨ad36002, e36002, hx36002_0, hx36002_1⟩ := at_T84 HR1.out x5_1 p36002 q36002
                cases e36002
                replace p36002 := eq_true p36002
                replace q36002 := eq_true q36002
                go_wp2
                repeat (go_quiet (fail); try go_wp2)
                go_roundg k1
                case measure => have := HK1.out; omega
                case rel => exact ⟨(wrap64 (x5_1 + 1)), (by first | rfl | (simp; done) | (simp [*]; done)), H', ⟨by have := HK1.out; omega⟩, by repeat (first | exact Drawn0.refl _ | apply Drawn0.step)⟩
            · rw [if_neg c6] at H
              exact absurd H (by simp)
          · rw [if_neg c5] at H
            exact absurd H (by simp)
        · rw [if_neg c4] at H
          have c4b0 : decide (x5_1 < (l0.length : Int)) = false := decide_eq_false c4
          clear c4
          obtain rfl := Option.some.inj H
          go_wp2
          repeat (go_quiet (fail); try go_wp2)
          go_ret
          exact ⟨by first | rfl | (simp; done) | (simp [*]; done), by repeat (first | exact Drawn0.refl _ | apply Drawn0.step)⟩
  · rw [if_neg c3] at H
    have c3b0 : ((l0.length : Int) == (l1.length : Int)) = false := beq_eq_false_iff_ne.mpr c3
    have c3b1 : ((l0.length : Int) != (l1.length : Int)) = true := bne_iff_ne.mpr c3
    have c3b2 : (l0.length == l1.length) = false := by first | simpa using c3 | (simp at c3 ⊢; omega)
    obtain rfl := Option.some.inj H
    go_enter Tryd.func35, Tryd.ntmps35
    go_wp2
    repeat (go_quiet (fail); try go_wp2)
    go_ret
    exact ⟨by first | rfl | (simp; done) | (simp [*]; done), by repeat (first | exact Drawn0.refl _ | apply Drawn0.step)⟩

end Go.Proofs.YtefhngadeimklaaDoor.Q
end
section
namespace Go.Proofs.YtefhngadeimklaaDoor.Q
open Go.RowKit Go.Proofs.YtefhngadeimklaaDoorW.PrintWords Go.Proofs.YtefhngadeimklaaDoorW.PrintLast
theorem enc_step (k : Nat) (s : Int) (acc : List Int) (i : Int) (hs : 0 ≤ s ∧ s < 4294967296) (hi : i = 0 ∨ i = 1 ∨ i = 2 ∨ i = 3) (ha : acc.length ≤ 10) : tinderref05_EncodeInt.l0 (k + 1) s acc i = tinderref05_EncodeInt.l0 k s (acc ++ [s / (256 ^ i.toNat) % 256]) (i - 1) := by
  have e0 : wrap64 (i - 1) = i - 1 := by unfold wrap64; omega
  have e1 : wrap64 (8 * i) = 8 * i := by unfold wrap64; omega
  have e2 : IntKind.u64.wrap (8 * i) = 8 * i := by rw [IntKind.wrap_u64]; omega
  have e3 : Int.tmod (shr .u32 s (8 * i)) 256 % 256 = s / (256 ^ i.toNat) % 256 := by
    rcases hi with rfl | rfl | rfl | rfl
    · rw [show shr .u32 s (8 * 0) = s / 1 from rfl, Int.tmod_eq_emod_of_nonneg (by omega), show (256 : Int) ^ (0 : Int).toNat = 1 from rfl]
      omega
    · rw [show shr .u32 s (8 * 1) = s / 256 from rfl, Int.tmod_eq_emod_of_nonneg (by omega), show (256 : Int) ^ (1 : Int).toNat = 256 from rfl]
      omega
    · rw [show shr .u32 s (8 * 2) = s / 65536 from rfl, Int.tmod_eq_emod_of_nonneg (by omega), show (256 : Int) ^ (2 : Int).toNat = 65536 from rfl]
      omega
    · rw [show shr .u32 s (8 * 3) = s / 16777216 from rfl, Int.tmod_eq_emod_of_nonneg (by omega), show (256 : Int) ^ (3 : Int).toNat = 16777216 from rfl]
      omega
  simp only [tinderref05_EncodeInt.l0]
  rw [if_pos (by omega), e1, e2, if_pos (by omega), if_pos (by omega), e3, e0]
theorem nv_encode_eq (k : Nat) (s : Int) (hs : 0 ≤ s ∧ s < 4294967296) (hk : 10 ≤ k) : tinderref05_EncodeInt.f k s = some (fourF s) := by
  obtain ⟨k, rfl⟩ : ∃ m, k = m + 5 := ⟨k - 5, by omega⟩
  unfold tinderref05_EncodeInt.f
  rw [enc_step _ s _ 3 hs (by omega) (by simp), enc_step _ s _ (3 - 1) hs (by omega) (by simp), enc_step _ s _ (3 - 1 - 1) hs (by omega) (by simp), enc_step _ s _ (3 - 1 - 1 - 1) hs (by omega) (by simp)]
  simp only [tinderref05_EncodeInt.l0]
  rw [if_neg (by decide)]
  simp [fourF]
theorem plan_go (base : Int) (hb : 0 ≤ base ∧ base ≤ 1000) (b : List Int) (hl : b.length ≤ 1000) (d : Nat) : ∀ (k : Nat) (acc : List S84) (i : Int), 0 ≤ i → i + d = b.length → d < k → (acc.length : Int) = i + 1 → tinderref18_Plan.l0 k base b acc i = some (layF base acc (b.drop i.toNat) ++ [⟨base, 165⟩], 0) := by
  induction d with
  | zero =>
    intro k acc i h0 h1 hk ha
    obtain ⟨k, rfl⟩ : ∃ m, k = m + 1 := ⟨k - 1, by omega⟩
    simp only [tinderref18_Plan.l0]
    rw [if_neg (by omega), if_pos (by omega), List.drop_eq_nil_of_le (by omega)]
    rfl
  | succ d ih =>
    intro k acc i h0 h1 hk ha
    obtain ⟨k, rfl⟩ : ∃ m, k = m + 1 := ⟨k - 1, by omega⟩
    have hil : i.toNat < b.length := by omega
    have hrd : rd b i = b[i.toNat] := by simp [rd, List.getD_eq_getElem?_getD, List.getElem?_eq_getElem hil]
    have e1 : wrap64 (i + 1) = i + 1 := by unfold wrap64; omega
    have e2 : (i + 1).toNat = i.toNat + 1 := by omega
    have e3 : wrap64 (wrap64 (base + 1) + i) = base + acc.length := by
      have : wrap64 (base + 1) = base + 1 := by unfold wrap64; omega
      rw [this]
      unfold wrap64
      omega
    simp only [tinderref18_Plan.l0]
    rw [if_pos (by omega), if_pos h0, if_pos (by omega), e1, e3, hrd, ih k _ (i + 1) (by omega) (by omega) (by omega) (by simp; omega), List.drop_eq_getElem_cons hil, e2]
    rfl
theorem lay_append (base : Int) (xs ys : List Int) (rows : List S84) : layF base rows (xs ++ ys) = layF base (layF base rows xs) ys := by
  unfold layF
  exact List.foldl_append ..
theorem plan_j (k : Nat) (data : List Int) (g base : Int) (hd : data.length ≤ 248) (hbd : nv_Bytes data) (hg : 0 ≤ g ∧ g < 256) (hb : 0 ≤ base ∧ base ≤ 1000) (hk : 1000 ≤ k) : tinderref18_Plan.j0 k data g base = some (rowsF base g data, 0) := by
  obtain ⟨k, rfl⟩ : ∃ m, k = m + 1 := ⟨k - 1, by omega⟩
  simp only [tinderref18_Plan.j0, Option.bind_some]
  rw [ref18_Sum_eq k g data hg hbd (by omega) (by omega), Option.bind_some, nv_encode_eq k _ (sumF_range g data) (by omega), Option.bind_some, if_pos (by simp [fourF]), if_pos (by simp [fourF]; omega)]
  rw [plan_go base hb _ (by simp [fourF]; omega) ([g, 0, (data.length : Int) % 256] ++ fourF (sumF g data) ++ data).length k _ 0 (by omega) (by omega) (by simp [fourF]; omega) (by simp)]
  unfold rowsF
  have e : (data.length : Int) / 256 % 256 = 0 := by omega
  rw [e]
  simp only [Int.toNat_zero, List.drop_zero]
  rw [lay_append, lay_append]
theorem same_go (xs : List S84) (hl : xs.length ≤ 1000000000) (d : Nat) : ∀ (k : Nat) (i : Int), 0 ≤ i → i + d = xs.length → d < k → tinderref18_SameBytes.l0 k xs xs i = some true := by
  induction d with
  | zero =>
    intro k i h0 h1 hk
    obtain ⟨k, rfl⟩ : ∃ m, k = m + 1 := ⟨k - 1, by omega⟩
    simp only [tinderref18_SameBytes.l0]
    rw [if_neg (by omega)]
  | succ d ih =>
    intro k i h0 h1 hk
    obtain ⟨k, rfl⟩ : ∃ m, k = m + 1 := ⟨k - 1, by omega⟩
    have e1 : wrap64 (i + 1) = i + 1 := by unfold wrap64; omega
    simp only [tinderref18_SameBytes.l0]
    rw [if_pos (by omega), if_pos h0, if_pos (by omega), if_neg (by simp), e1]
    exact ih k (i + 1) (by omega) (by omega) (by omega)
theorem refplan_eq (k : Nat) (hk : 2000 ≤ k) (nv data : List Int) (hB : nv_Bytes nv) (hB2 : nv_Bytes data) : tinderref18_Plan.f k nv data = some (planF nv data) := by
  unfold tinderref18_Plan.f planF
  by_cases hn : nv.length = 512
  · rw [if_pos (by omega), if_pos hn]
    by_cases hd : data.length ≤ 248
    · rw [if_neg (by omega), if_pos hd]
      have hc : tinderref18_Counts.f nv = some (countsR nv) := by unfold tinderref18_Counts.f; rw [if_pos ⟨hn, bytesB_iff.2 hB⟩]
      obtain ⟨h1, h2⟩ := counts_eq nv hn hB
      have hcs := countsF_cases nv
      rw [hc, Option.bind_some, h1, h2]
      have hgr : 0 ≤ genF nv ∧ genF nv < 256 := by rw [← h2]; omega
      have hbase : baseF nv = if 0 ≤ countsF nv then (1 - countsF nv) * 256 else 0 := rfl
      by_cases hk0 : countsF nv = 0
      · rw [if_pos hk0, plan_j k data _ 256 hd hB2 hgr (by omega) (by omega), hbase, if_pos (by omega), hk0]
        rfl
      · rw [if_neg hk0, plan_j k data _ 0 hd hB2 hgr (by omega) (by omega), hbase]
        rcases hcs with h | h | h
        · rw [if_neg (by omega)]
        · exact absurd h hk0
        · rw [if_pos (by omega), h]
          rfl
    · rw [if_pos (by omega), if_neg hd]
  · rw [if_neg (by omega), if_neg hn]
theorem planF_len (nv data : List Int) : (planF nv data).1.length ≤ 1000 := by
  unfold planF
  split
  · split
    · rw [rowsF_len]; omega
    · simp
  · simp
theorem samebytes_eq (xs : List S84) (hl : xs.length ≤ 1000000000) (k : Nat) (hk : xs.length < k) : tinderref18_SameBytes.f k xs xs = some true := by
  unfold tinderref18_SameBytes.f
  rw [if_pos rfl]
  exact same_go xs hl xs.length k 0 (by omega) (by omega) (by omega)
end Go.Proofs.YtefhngadeimklaaDoor.Q
end
section
namespace Go.Proofs.YtefhngadeimklaaDoor.Q
open Go.RowKit Go.Proofs.YtefhngadeimklaaDoorW.PrintWords Go.Proofs.YtefhngadeimklaaDoorW.PrintLast Go.Proofs.YtefhngadeimklaaDoorW.PrintMore
set_option linter.unusedVariables false
set_option linter.unusedSimpArgs false

attribute [local go_sem] max2_int min2_int max_two min_two max_three min_three max_four min_four
/-! ### vars_Load: function 33 -/
def vars_Load.f (k : Nat) (l0 : List Int) : Option ((List (S40))) := (nvram_Recover.f l0).bind fun bt34001 => (if bt34001.2.2 = true then ((vars_Decode.f k bt34001.1).bind fun bt34006 => (if bt34006.2 = 0 then (some bt34006.1) else (some ([] : List (S40))))) else (some ([] : List (S40))))
set_option maxHeartbeats 8000000 in
set_option maxRecDepth 100000 in
theorem vars_Load.calls (k : Nat) (A0 : Option Addr) (c0 : Nat) (l0 : List Int) (r : List (S40)) (w : World) (ht : Tabs w) (hr0 : Kd.C (Kd.int .u8) w A0 l0.length l0) (hc0 : l0.length ≤ c0) (h : vars_Load.f k l0 = some r) :
    Calls Tryd.prog 33 #[.slice A0 l0.length c0] w fun e w' => ∃ v0_ : Value, e = .returned (v0_) ∧ Kd.R k40 40 w' w.heap.size (fun _ => True) v0_ r ∧ Below w.heap.size w w' := by
  have HR0 := Aside0.mk hr0
  have HC0 := Aside0.mk hc0
  clear hr0 hc0
  have HB := Aside0.mk (Below.refl w.heap.size w)
  have H : ((nvram_Recover.f l0).bind fun bt34001 => (if bt34001.2.2 = true then ((vars_Decode.f k bt34001.1).bind fun bt34006 => (if bt34006.2 = 0 then (some bt34006.1) else (some ([] : List (S40))))) else (some ([] : List (S40))))) = some r := h
  clear h
  replace H := Option.bind_eq_some_iff.mp H
  obtain ⟨⟨t34001, t34002, t34003⟩, A20, H⟩ := H
  replace H : (if t34003 = true then ((vars_Decode.f k t34001).bind fun bt34006 => (if bt34006.2 = 0 then (some bt34006.1) else (some ([] : List (S40))))) else (some ([] : List (S40)))) = some r := H
  have A2 := Aside0.mk A20
  clear A20
  by_cases c3 : t34003 = true
  · subst c3
    have H1 : ((vars_Decode.f k t34001).bind fun bt34006 => (if bt34006.2 = 0 then (some bt34006.1) else (some ([] : List (S40))))) = some r := by rw [if_pos rfl] at H; exact H
    clear H
    have H := H1
    clear H1
    replace H := Option.bind_eq_some_iff.mp H
    obtain ⟨⟨t34006, t34007⟩, A40, H⟩ := H
    replace H : (if t34007 = 0 then (some t34006) else (some ([] : List (S40)))) = some r := H
    have A4 := Aside0.mk A40
    clear A40
    by_cases c5 : t34007 = 0
    · rw [if_pos c5] at H
      have c5b0 : (t34007 == 0) = true := beq_iff_eq.mpr c5
      have c5b1 : (t34007 != 0) = false := bne_eq_false_iff_eq.mpr c5
      clear c5
      obtain rfl := Option.some.inj H
      go_enter Tryd.func33, Tryd.ntmps33
      go_wp2_with (first | ((with_reducible refine gate_callee (f := 55) rfl ?_); refine goesL_ (some 10) rfl rfl Tryd.func55 (by kernel_rfl) rfl #[.slice A0 l0.length c0] rfl (by (try simp only [List.map_toArray, List.map_cons, List.map_nil]); first | done | rfl | (simp only [List.length_drop, List.length_take]; rfl)) ?_; (with_reducible refine (nvram_Recover.calls _ _ l0 t34001 t34002 true _ ?side1 ?side2 A2.out).mono ?_); (case side1 => repeat (first | exact HR0.out | (with_reducible refine Kd.C_alloc ?_ _) | (with_reducible refine Kd.C_drewN ?_ _) | (with_reducible refine Kd.C_drew ?_))); (case side2 => exact HC0.out); rintro e w6 ⟨v34004, rfl, ho0, hb⟩; refine ⟨_, rfl, ?_⟩; have n0_ := Aside0.mk (Kd.R_lower ho0 (below_size (by repeat (first | (with_reducible first | exact HB.out | apply below_alloc | apply pw_below_drewN | apply below_drew1) | exact HB.out)))); have n1_ := Aside0.mk (below_step (by repeat (first | (with_reducible first | exact HB.out | apply below_alloc | apply pw_below_drewN | apply below_drew1) | exact HB.out)) hb); clear HB; have HO34005 := n0_; have HB := n1_; clear n0_ n1_; (try clear hb); (try clear hb2); (try clear hk); (try clear hi); (try clear ho0); obtain ⟨Ao7, co7, eo7⟩ := Kd.R_slice HO34005.out; subst eo7) | ((with_reducible refine gate_callee (f := 28) rfl ?_); refine goesL_ (some 18) rfl rfl Tryd.func28 (by kernel_rfl) rfl #[.slice Ao7 t34001.length co7] rfl (by (try simp only [List.map_toArray, List.map_cons, List.map_nil]); first | done | rfl | (simp only [List.length_drop, List.length_take]; rfl)) ?_; (with_reducible refine (vars_Decode.calls k _ _ t34001 t34006 t34007 _ (Tabs.below ht (by repeat (first | (with_reducible first | exact HB.out | apply below_alloc | apply pw_below_drewN | apply below_drew1 | refine below_set ?_ (Aside0.out (by assumption))) | exact HB.out))) ?side1 ?side2 A4.out).mono ?_); (case side1 => repeat (first | exact (Kd.R_reads' HO34005.out).2.2 | (with_reducible refine Kd.C_alloc ?_ _) | (with_reducible refine Kd.C_drewN ?_ _) | (with_reducible refine Kd.C_drew ?_))); (case side2 => exact (Kd.R_reads' HO34005.out).2.1); rintro e w8 ⟨v34008, rfl, ho0, hb⟩; refine ⟨_, rfl, ?_⟩; have n0_ := Aside0.mk (Kd.R_below (by (with_reducible repeat (first | apply Kd.R_alloc | apply Kd.R_drewN | apply Kd.R_drew)); exact HO34005.out) hb); have n1_ := Aside0.mk (Kd.R_lower ho0 (below_size (by repeat (first | (with_reducible first | exact HB.out | apply below_alloc | apply pw_below_drewN | apply below_drew1) | exact HB.out)))); have n2_ := Aside0.mk (below_step (by repeat (first | (with_reducible first | exact HB.out | apply below_alloc | apply pw_below_drewN | apply below_drew1) | exact HB.out)) hb); clear HO34005; clear HB; have HO34005 := n0_; have HO34009 := n1_; have HB := n2_; clear n0_ n1_ n2_; (try clear hb); (try clear hb2); (try clear hk); (try clear hi); (try clear ho0)))
      go_ret
      exact ⟨_, by first | rfl | (simp [errW_none, errW_some] <;> rfl) | (simp [*, errW_none, errW_some] <;> rfl), by (with_reducible repeat (first | apply Kd.R_alloc | apply Kd.R_drewN | apply Kd.R_drew)); exact HO34009.out, by repeat (first | (with_reducible first | exact HB.out | apply below_alloc | apply pw_below_drewN | apply below_drew1) | exact HB.out)⟩
    · rw [if_neg c5] at H
      have c5b0 : (t34007 == 0) = false := beq_eq_false_iff_ne.mpr c5
      have c5b1 : (t34007 != 0) = true := bne_iff_ne.mpr c5
      obtain rfl := Option.some.inj H
      go_enter Tryd.func33, Tryd.ntmps33
      go_wp2_with (first | ((with_reducible refine gate_callee (f := 55) rfl ?_); refine goesL_ (some 10) rfl rfl Tryd.func55 (by kernel_rfl) rfl #[.slice A0 l0.length c0] rfl (by (try simp only [List.map_toArray, List.map_cons, List.map_nil]); first | done | rfl | (simp only [List.length_drop, List.length_take]; rfl)) ?_; (with_reducible refine (nvram_Recover.calls _ _ l0 t34001 t34002 true _ ?side1 ?side2 A2.out).mono ?_); (case side1 => repeat (first | exact HR0.out | (with_reducible refine Kd.C_alloc ?_ _) | (with_reducible refine Kd.C_drewN ?_ _) | (with_reducible refine Kd.C_drew ?_))); (case side2 => exact HC0.out); rintro e w9 ⟨v34004, rfl, ho0, hb⟩; refine ⟨_, rfl, ?_⟩; have n0_ := Aside0.mk (Kd.R_lower ho0 (below_size (by repeat (first | (with_reducible first | exact HB.out | apply below_alloc | apply pw_below_drewN | apply below_drew1) | exact HB.out)))); have n1_ := Aside0.mk (below_step (by repeat (first | (with_reducible first | exact HB.out | apply below_alloc | apply pw_below_drewN | apply below_drew1) | exact HB.out)) hb); clear HB; have HO34005 := n0_; have HB := n1_; clear n0_ n1_; (try clear hb); (try clear hb2); (try clear hk); (try clear hi); (try clear ho0); obtain ⟨Ao10, co10, eo10⟩ := Kd.R_slice HO34005.out; subst eo10) | ((with_reducible refine gate_callee (f := 28) rfl ?_); refine goesL_ (some 18) rfl rfl Tryd.func28 (by kernel_rfl) rfl #[.slice Ao10 t34001.length co10] rfl (by (try simp only [List.map_toArray, List.map_cons, List.map_nil]); first | done | rfl | (simp only [List.length_drop, List.length_take]; rfl)) ?_; (with_reducible refine (vars_Decode.calls k _ _ t34001 t34006 t34007 _ (Tabs.below ht (by repeat (first | (with_reducible first | exact HB.out | apply below_alloc | apply pw_below_drewN | apply below_drew1 | refine below_set ?_ (Aside0.out (by assumption))) | exact HB.out))) ?side1 ?side2 A4.out).mono ?_); (case side1 => repeat (first | exact (Kd.R_reads' HO34005.out).2.2 | (with_reducible refine Kd.C_alloc ?_ _) | (with_reducible refine Kd.C_drewN ?_ _) | (with_reducible refine Kd.C_drew ?_))); (case side2 => exact (Kd.R_reads' HO34005.out).2.1); rintro e w11 ⟨v34008, rfl, ho0, hb⟩; refine ⟨_, rfl, ?_⟩; have n0_ := Aside0.mk (Kd.R_below (by (with_reducible repeat (first | apply Kd.R_alloc | apply Kd.R_drewN | apply Kd.R_drew)); exact HO34005.out) hb); have n1_ := Aside0.mk (Kd.R_lower ho0 (below_size (by repeat (first | (with_reducible first | exact HB.out | apply below_alloc | apply pw_below_drewN | apply below_drew1) | exact HB.out)))); have n2_ := Aside0.mk (below_step (by repeat (first | (with_reducible first | exact HB.out | apply below_alloc | apply pw_below_drewN | apply below_drew1) | exact HB.out)) hb); clear HO34005; clear HB; have HO34005 := n0_; have HO34009 := n1_; have HB := n2_; clear n0_ n1_ n2_; (try clear hb); (try clear hb2); (try clear hk); (try clear hi); (try clear ho0)))
      go_ret
      exact ⟨_, by first | rfl | (simp [errW_none, errW_some] <;> rfl) | (simp [*, errW_none, errW_some] <;> rfl), by first | exact Kd.R_nil _ _ _ _ _ | exact Kd.N_nil _ _ _ _ _ | exact Kd.V_nil _ _ _ _ _ | exact Kd.Q_nil _ _ _ _ _ | exact Kd.S_nil _ _ _ _ _, by repeat (first | (with_reducible first | exact HB.out | apply below_alloc | apply pw_below_drewN | apply below_drew1) | exact HB.out)⟩
  · replace c3 := Bool.eq_false_iff.mpr c3
    subst c3
    have H1 : (some ([] : List (S40))) = some r := by rw [if_neg (show ¬ (false = true) by decide)] at H; exact H
    clear H
    have H := H1
    clear H1
    obtain rfl := Option.some.inj H
    go_enter Tryd.func33, Tryd.ntmps33
    go_wp2_with (first | ((with_reducible refine gate_callee (f := 55) rfl ?_); refine goesL_ (some 10) rfl rfl Tryd.func55 (by kernel_rfl) rfl #[.slice A0 l0.length c0] rfl (by (try simp only [List.map_toArray, List.map_cons, List.map_nil]); first | done | rfl | (simp only [List.length_drop, List.length_take]; rfl)) ?_; (with_reducible refine (nvram_Recover.calls _ _ l0 t34001 t34002 false _ ?side1 ?side2 A2.out).mono ?_); (case side1 => repeat (first | exact HR0.out | (with_reducible refine Kd.C_alloc ?_ _) | (with_reducible refine Kd.C_drewN ?_ _) | (with_reducible refine Kd.C_drew ?_))); (case side2 => exact HC0.out); rintro e w12 ⟨v34004, rfl, ho0, hb⟩; refine ⟨_, rfl, ?_⟩; have n0_ := Aside0.mk (Kd.R_lower ho0 (below_size (by repeat (first | (with_reducible first | exact HB.out | apply below_alloc | apply pw_below_drewN | apply below_drew1) | exact HB.out)))); have n1_ := Aside0.mk (below_step (by repeat (first | (with_reducible first | exact HB.out | apply below_alloc | apply pw_below_drewN | apply below_drew1) | exact HB.out)) hb); clear HB; have HO34005 := n0_; have HB := n1_; clear n0_ n1_; (try clear hb); (try clear hb2); (try clear hk); (try clear hi); (try clear ho0)))
    go_ret
    exact ⟨_, by first | rfl | (simp [errW_none, errW_some] <;> rfl) | (simp [*, errW_none, errW_some] <;> rfl), by first | exact Kd.R_nil _ _ _ _ _ | exact Kd.N_nil _ _ _ _ _ | exact Kd.V_nil _ _ _ _ _ | exact Kd.Q_nil _ _ _ _ _ | exact Kd.S_nil _ _ _ _ _, by repeat (first | (with_reducible first | exact HB.out | apply below_alloc | apply pw_below_drewN | apply below_drew1) | exact HB.out)⟩

end Go.Proofs.YtefhngadeimklaaDoor.Q
end
section
namespace Go.Proofs.YtefhngadeimklaaDoor.Q
open Go.RowKit Go.Proofs.YtefhngadeimklaaDoorW.PrintWords Go.Proofs.YtefhngadeimklaaDoorW.PrintLast Go.Proofs.YtefhngadeimklaaDoorW.PrintMore
set_option linter.unusedVariables false
set_option linter.unusedSimpArgs false

attribute [local go_sem] max2_int min2_int max_two min_two max_three min_three max_four min_four
/-! ### vars_Save: function 31 -/
def vars_Save.f (k : Nat) (l0 : List Int) (l1 : List (S40)) : Option ((List (S84)) × Int) := (vars_Encode.f k l1).bind fun bt32001 => (if bt32001.2 = 0 then ((nvram_Plan.f l0 bt32001.1).bind fun bt32005 => (some (bt32005.1, bt32005.2))) else (some (([] : List (S84)), bt32001.2)))
set_option maxHeartbeats 8000000 in
set_option maxRecDepth 100000 in
theorem vars_Save.calls (k : Nat) (A0 : Option Addr) (c0 : Nat) (l0 : List Int) (A1 : Option Addr) (c1 : Nat) (l1 : List (S40)) (r1 : List (S84)) (r2 : Int) (w : World) (ht : Tabs w) (hr0 : Kd.C (Kd.int .u8) w A0 l0.length l0) (hc0 : l0.length ≤ c0) (hr1 : Kd.C k40 w A1 l1.length l1) (hc1 : l1.length ≤ c1) (h : vars_Save.f k l0 l1 = some (r1, r2)) :
    Calls Tryd.prog 31 #[.slice A0 l0.length c0, .slice A1 l1.length c1] w fun e w' => ∃ v0_ : Value, e = .returned (.tuple #[v0_, .int .i64 r2]) ∧ Kd.R k84 84 w' w.heap.size (fun _ => True) v0_ r1 ∧ Below w.heap.size w w' := by
  have HR0 := Aside0.mk hr0
  have HC0 := Aside0.mk hc0
  clear hr0 hc0
  have HR1 := Aside0.mk hr1
  have HC1 := Aside0.mk hc1
  clear hr1 hc1
  have HB := Aside0.mk (Below.refl w.heap.size w)
  have H : ((vars_Encode.f k l1).bind fun bt32001 => (if bt32001.2 = 0 then ((nvram_Plan.f l0 bt32001.1).bind fun bt32005 => (some (bt32005.1, bt32005.2))) else (some (([] : List (S84)), bt32001.2)))) = some (r1, r2) := h
  clear h
  replace H := Option.bind_eq_some_iff.mp H
  obtain ⟨⟨t32001, t32002⟩, A30, H⟩ := H
  replace H : (if t32002 = 0 then ((nvram_Plan.f l0 t32001).bind fun bt32005 => (some (bt32005.1, bt32005.2))) else (some (([] : List (S84)), t32002))) = some (r1, r2) := H
  have A3 := Aside0.mk A30
  clear A30
  by_cases c4 : t32002 = 0
  · rw [if_pos c4] at H
    have c4b0 : (t32002 == 0) = true := beq_iff_eq.mpr c4
    have c4b1 : (t32002 != 0) = false := bne_eq_false_iff_eq.mpr c4
    clear c4
    replace H := Option.bind_eq_some_iff.mp H
    obtain ⟨⟨t32005, t32006⟩, A50, H⟩ := H
    replace H : (some (t32005, t32006)) = some (r1, r2) := H
    have A5 := Aside0.mk A50
    clear A50
    simp only [Option.some.injEq, Prod.mk.injEq] at H
    obtain ⟨rfl, rfl⟩ := H
    go_enter Tryd.func31, Tryd.ntmps31
    go_wp2_with (first | ((with_reducible refine gate_callee (f := 26) rfl ?_); refine goesL_ (some 10) rfl rfl Tryd.func26 (by kernel_rfl) rfl #[.slice A1 l1.length c1] rfl (by (try simp only [List.map_toArray, List.map_cons, List.map_nil]); first | done | rfl | (simp only [List.length_drop, List.length_take]; rfl)) ?_; (with_reducible refine (vars_Encode.calls k _ _ l1 t32001 t32002 _ (Tabs.below ht (by repeat (first | (with_reducible first | exact HB.out | apply below_alloc | apply pw_below_drewN | apply below_drew1 | refine below_set ?_ (Aside0.out (by assumption))) | exact HB.out))) ?side1 ?side2 A3.out).mono ?_); (case side1 => repeat (first | exact HR1.out | (with_reducible refine Kd.C_alloc ?_ _) | (with_reducible refine Kd.C_drewN ?_ _) | (with_reducible refine Kd.C_drew ?_))); (case side2 => exact HC1.out); rintro e w6 ⟨v32003, rfl, ho0, hb⟩; refine ⟨_, rfl, ?_⟩; have n0_ := Aside0.mk (Kd.R_lower ho0 (below_size (by repeat (first | (with_reducible first | exact HB.out | apply below_alloc | apply pw_below_drewN | apply below_drew1) | exact HB.out)))); have n1_ := Aside0.mk (below_step (by repeat (first | (with_reducible first | exact HB.out | apply below_alloc | apply pw_below_drewN | apply below_drew1) | exact HB.out)) hb); clear HB; have HO32004 := n0_; have HB := n1_; clear n0_ n1_; (try clear hb); (try clear hb2); (try clear hk); (try clear hi); (try clear ho0); obtain ⟨Ao7, co7, eo7⟩ := Kd.R_slice HO32004.out; subst eo7) | ((with_reducible refine gate_callee (f := 53) rfl ?_); refine goesL_ (some 18) rfl rfl Tryd.func53 (by kernel_rfl) rfl #[.slice A0 l0.length c0, .slice Ao7 t32001.length co7] rfl (by (try simp only [List.map_toArray, List.map_cons, List.map_nil]); first | done | rfl | (simp only [List.length_drop, List.length_take]; rfl)) ?_; (with_reducible refine (nvram_Plan.calls _ _ l0 _ _ t32001 t32005 t32006 _ ?side1 ?side2 ?side3 ?side4 A5.out).mono ?_); (case side1 => repeat (first | exact (Kd.C_below HR0.out HB.out) | (with_reducible refine Kd.C_alloc ?_ _) | (with_reducible refine Kd.C_drewN ?_ _) | (with_reducible refine Kd.C_drew ?_))); (case side2 => exact HC0.out); (case side3 => repeat (first | exact (Kd.R_reads' HO32004.out).2.2 | (with_reducible refine Kd.C_alloc ?_ _) | (with_reducible refine Kd.C_drewN ?_ _) | (with_reducible refine Kd.C_drew ?_))); (case side4 => exact (Kd.R_reads' HO32004.out).2.1); rintro e w8 ⟨v32007, rfl, ho0, hb⟩; refine ⟨_, rfl, ?_⟩; have n0_ := Aside0.mk (Kd.R_below (by (with_reducible repeat (first | apply Kd.R_alloc | apply Kd.R_drewN | apply Kd.R_drew)); exact HO32004.out) hb); have n1_ := Aside0.mk (Kd.R_lower ho0 (below_size (by repeat (first | (with_reducible first | exact HB.out | apply below_alloc | apply pw_below_drewN | apply below_drew1) | exact HB.out)))); have n2_ := Aside0.mk (below_step (by repeat (first | (with_reducible first | exact HB.out | apply below_alloc | apply pw_below_drewN | apply below_drew1) | exact HB.out)) hb); clear HO32004; clear HB; have HO32004 := n0_; have HO32008 := n1_; have HB := n2_; clear n0_ n1_ n2_; (try clear hb); (try clear hb2); (try clear hk); (try clear hi); (try clear ho0)))
    go_ret2
    exact ⟨_, by first | rfl | (simp [errW_none, errW_some] <;> rfl) | (simp [*, errW_none, errW_some] <;> rfl), by (with_reducible repeat (first | apply Kd.R_alloc | apply Kd.R_drewN | apply Kd.R_drew)); exact HO32008.out, by repeat (first | (with_reducible first | exact HB.out | apply below_alloc | apply pw_below_drewN | apply below_drew1) | exact HB.out)⟩
  · rw [if_neg c4] at H
    have c4b0 : (t32002 == 0) = false := beq_eq_false_iff_ne.mpr c4
    have c4b1 : (t32002 != 0) = true := bne_iff_ne.mpr c4
    simp only [Option.some.injEq, Prod.mk.injEq] at H
    obtain ⟨rfl, rfl⟩ := H
    go_enter Tryd.func31, Tryd.ntmps31
    go_wp2_with (first | ((with_reducible refine gate_callee (f := 26) rfl ?_); refine goesL_ (some 10) rfl rfl Tryd.func26 (by kernel_rfl) rfl #[.slice A1 l1.length c1] rfl (by (try simp only [List.map_toArray, List.map_cons, List.map_nil]); first | done | rfl | (simp only [List.length_drop, List.length_take]; rfl)) ?_; (with_reducible refine (vars_Encode.calls k _ _ l1 t32001 t32002 _ (Tabs.below ht (by repeat (first | (with_reducible first | exact HB.out | apply below_alloc | apply pw_below_drewN | apply below_drew1 | refine below_set ?_ (Aside0.out (by assumption))) | exact HB.out))) ?side1 ?side2 A3.out).mono ?_); (case side1 => repeat (first | exact HR1.out | (with_reducible refine Kd.C_alloc ?_ _) | (with_reducible refine Kd.C_drewN ?_ _) | (with_reducible refine Kd.C_drew ?_))); (case side2 => exact HC1.out); rintro e w9 ⟨v32003, rfl, ho0, hb⟩; refine ⟨_, rfl, ?_⟩; have n0_ := Aside0.mk (Kd.R_lower ho0 (below_size (by repeat (first | (with_reducible first | exact HB.out | apply below_alloc | apply pw_below_drewN | apply below_drew1) | exact HB.out)))); have n1_ := Aside0.mk (below_step (by repeat (first | (with_reducible first | exact HB.out | apply below_alloc | apply pw_below_drewN | apply below_drew1) | exact HB.out)) hb); clear HB; have HO32004 := n0_; have HB := n1_; clear n0_ n1_; (try clear hb); (try clear hb2); (try clear hk); (try clear hi); (try clear ho0)))
    go_ret2
    exact ⟨_, by first | rfl | (simp [errW_none, errW_some] <;> rfl) | (simp [*, errW_none, errW_some] <;> rfl), by first | exact Kd.R_nil _ _ _ _ _ | exact Kd.N_nil _ _ _ _ _ | exact Kd.V_nil _ _ _ _ _ | exact Kd.Q_nil _ _ _ _ _ | exact Kd.S_nil _ _ _ _ _, by repeat (first | (with_reducible first | exact HB.out | apply below_alloc | apply pw_below_drewN | apply below_drew1) | exact HB.out)⟩

end Go.Proofs.YtefhngadeimklaaDoor.Q
end
section
set_option linter.unusedSimpArgs false
set_option linter.unusedVariables false
namespace Go.Proofs.YtefhngadeimklaaDoor.Q
open Go.RowKit Go.Proofs.YtefhngadeimklaaDoorW.PrintWords Go.Proofs.YtefhngadeimklaaDoorW.PrintLast
theorem wf_B {b : List Int} (h : ∀ a ∈ b, (Lit.int .u8 a).wf = true) : Bytes b := fun a ha => by
  have := h a ha
  simp only [Lit.wf, Bool.and_eq_true, decide_eq_true_eq, show IntKind.u8.min = 0 from rfl, show IntKind.u8.max = 255 from rfl] at this
  omega
def saveF (nv : List Int) (l : List S40) : List S84 × Int := if (encodeF l).2 = 0 then planF nv (encodeF l).1 else ([], (encodeF l).2)
theorem encodeF_B (l : List S40) : Bytes (encodeF l).1 := by
  unfold encodeF
  split
  · split
    · exact fun a ha => by cases ha
    · exact encF_B l
  · exact fun a ha => by cases ha
theorem plan_of (nv data : List Int) (hB : Bytes nv) : nvram_Plan.f nv data = some (planF nv data) := by unfold nvram_Plan.f; rw [if_pos (bytesB_iff.2 hB)]
theorem save_eq (nv : List Int) (hB : Bytes nv) (l : List S40) (hf : Fits l) (hl : l.length < 1125899906842624) (k : Nat) (hk : l.length + 140737488351400 < k) : vars_Save.f k nv l = some (saveF nv l) := by
  unfold vars_Save.f saveF
  rw [encode_eq l hf hl k hk, Option.bind_some, plan_of nv _ hB, Option.bind_some]
  split <;> rfl
def loadF (nv : List Int) : List S40 := if (recF nv).2.2 = true then (decR (decS [] (recF nv).1 [])).1 else []
theorem rec_B (nv : List Int) (hB : Bytes nv) : Bytes (recF nv).1 ∧ (recF nv).1.length ≤ 248 := by
  unfold recF
  split
  · rename_i h
    exact ⟨dataF_bytes (bankF_bytes hB _), dataF_len _ (bankF_len h.1 _)⟩
  · exact ⟨fun a ha => absurd ha (List.not_mem_nil), Nat.zero_le _⟩
theorem rec_no (nv : List Int) (h : ¬ (recF nv).2.2 = true) : (recF nv).1 = [] := by
  unfold recF at h ⊢
  split at h
  · exact absurd rfl h
  · rename_i h2
    rw [if_neg h2]
theorem rec_of (nv : List Int) (hB : Bytes nv) : nvram_Recover.f nv = some (recF nv) := by unfold nvram_Recover.f; rw [if_pos (bytesB_iff.2 hB)]
theorem load_eq (nv : List Int) (hB : Bytes nv) (k : Nat) (hk : 140737500000000 < k) : vars_Load.f k nv = some (loadF nv) := by
  have hr := rec_B nv hB
  unfold vars_Load.f loadF
  rw [rec_of nv hB, Option.bind_some]
  by_cases h : (recF nv).2.2 = true
  · rw [if_pos h, if_pos h, decode_eq _ (by omega) hr.1 k hk, Option.bind_some]
    by_cases h2 : (decR (decS [] (recF nv).1 [])).2 = 0
    · rw [if_pos h2]
    · rw [if_neg h2]
      cases hd : decS [] (recF nv).1 [] with
      | none => rfl
      | some m =>
        rw [hd] at h2
        by_cases hm : rightF m = true
        · rw [decR_ok m hm] at h2
          exact absurd rfl h2
        · rw [decR_no m hm]
  · rw [if_neg h, if_neg h]
theorem loadF_len (nv : List Int) (hB : Bytes nv) : (loadF nv).length ≤ 1048576 := by
  have hr := rec_B nv hB
  unfold loadF
  split
  · exact decR_len _ (by omega)
  · simp
theorem saveF_len (nv : List Int) (l : List S40) : (saveF nv l).1.length ≤ 1000 := by
  unfold saveF
  split
  · exact planF_len _ _
  · simp
end Go.Proofs.YtefhngadeimklaaDoor.Q
end
section
namespace Go.Proofs.YtefhngadeimklaaDoor.Q
open Go.RowKit Go.Proofs.YtefhngadeimklaaDoorW.PrintWords Go.Proofs.YtefhngadeimklaaDoorW.PrintLast Go.Proofs.YtefhngadeimklaaDoorW.PrintMore
set_option linter.unusedVariables false
set_option linter.unusedSimpArgs false

attribute [local go_sem] max2_int min2_int max_two min_two max_three min_three max_four min_four
/-! ### tinderref19_Load: function 34 -/
def tinderref19_Load.f (k : Nat) (l0 : List Int) : Option ((List (S40))) := (tinderref18_Recover.f l0).bind fun bt35001 => ((tinderref19_Decode.f k bt35001.1).bind fun bt35006 => (some bt35006.1))
set_option maxHeartbeats 8000000 in
set_option maxRecDepth 100000 in
theorem tinderref19_Load.calls (k : Nat) (A0 : Option Addr) (c0 : Nat) (l0 : List Int) (r : List (S40)) (w : World) (hr0 : Kd.C (Kd.int .u8) w A0 l0.length l0) (hc0 : l0.length ≤ c0) (h : tinderref19_Load.f k l0 = some r) :
    Calls Tryd.prog 34 #[.slice A0 l0.length c0] w fun e w' => ∃ v0_ : Value, e = .returned (v0_) ∧ Kd.R k40 40 w' w.heap.size (fun _ => True) v0_ r ∧ Below w.heap.size w w' := by
  have HR0 := Aside0.mk hr0
  have HC0 := Aside0.mk hc0
  clear hr0 hc0
  have HB := Aside0.mk (Below.refl w.heap.size w)
  have H : ((tinderref18_Recover.f l0).bind fun bt35001 => ((tinderref19_Decode.f k bt35001.1).bind fun bt35006 => (some bt35006.1))) = some r := h
  clear h
  replace H := Option.bind_eq_some_iff.mp H
  obtain ⟨⟨t35001, t35002, t35003⟩, A20, H⟩ := H
  replace H : ((tinderref19_Decode.f k t35001).bind fun bt35006 => (some bt35006.1)) = some r := H
  have A2 := Aside0.mk A20
  clear A20
  replace H := Option.bind_eq_some_iff.mp H
  obtain ⟨⟨t35006, t35007⟩, A30, H⟩ := H
  replace H : (some t35006) = some r := H
  have A3 := Aside0.mk A30
  clear A30
  obtain rfl := Option.some.inj H
  go_enter Tryd.func34, Tryd.ntmps34
  go_wp2_with (first | ((with_reducible refine gate_callee (f := 56) rfl ?_); refine goesL_ (some 10) rfl rfl Tryd.func56 (by kernel_rfl) rfl #[.slice A0 l0.length c0] rfl (by (try simp only [List.map_toArray, List.map_cons, List.map_nil]); first | done | rfl | (simp only [List.length_drop, List.length_take]; rfl)) ?_; (with_reducible refine (tinderref18_Recover.calls _ _ l0 t35001 t35002 t35003 _ ?side1 ?side2 A2.out).mono ?_); (case side1 => repeat (first | exact HR0.out | (with_reducible refine Kd.C_alloc ?_ _) | (with_reducible refine Kd.C_drewN ?_ _) | (with_reducible refine Kd.C_drew ?_))); (case side2 => exact HC0.out); rintro e w4 ⟨v35004, rfl, ho0, hb⟩; refine ⟨_, rfl, ?_⟩; have n0_ := Aside0.mk (Kd.R_lower ho0 (below_size (by repeat (first | (with_reducible first | exact HB.out | apply below_alloc | apply pw_below_drewN | apply below_drew1) | exact HB.out)))); have n1_ := Aside0.mk (below_step (by repeat (first | (with_reducible first | exact HB.out | apply below_alloc | apply pw_below_drewN | apply below_drew1) | exact HB.out)) hb); clear HB; have HO35005 := n0_; have HB := n1_; clear n0_ n1_; (try clear hb); (try clear hb2); (try clear hk); (try clear hi); (try clear ho0); obtain ⟨Ao5, co5, eo5⟩ := Kd.R_slice HO35005.out; subst eo5) | ((with_reducible refine gate_callee (f := 29) rfl ?_); refine goesL_ (some 16) rfl rfl Tryd.func29 (by kernel_rfl) rfl #[.slice Ao5 t35001.length co5] rfl (by (try simp only [List.map_toArray, List.map_cons, List.map_nil]); first | done | rfl | (simp only [List.length_drop, List.length_take]; rfl)) ?_; (with_reducible refine (tinderref19_Decode.calls k _ _ t35001 t35006 t35007 _ ?side1 ?side2 A3.out).mono ?_); (case side1 => repeat (first | exact (Kd.R_reads' HO35005.out).2.2 | (with_reducible refine Kd.C_alloc ?_ _) | (with_reducible refine Kd.C_drewN ?_ _) | (with_reducible refine Kd.C_drew ?_))); (case side2 => exact (Kd.R_reads' HO35005.out).2.1); rintro e w6 ⟨v35008, rfl, ho0, hb⟩; refine ⟨_, rfl, ?_⟩; have n0_ := Aside0.mk (Kd.R_below (by (with_reducible repeat (first | apply Kd.R_alloc | apply Kd.R_drewN | apply Kd.R_drew)); exact HO35005.out) hb); have n1_ := Aside0.mk (Kd.R_lower ho0 (below_size (by repeat (first | (with_reducible first | exact HB.out | apply below_alloc | apply pw_below_drewN | apply below_drew1) | exact HB.out)))); have n2_ := Aside0.mk (below_step (by repeat (first | (with_reducible first | exact HB.out | apply below_alloc | apply pw_below_drewN | apply below_drew1) | exact HB.out)) hb); clear HO35005; clear HB; have HO35005 := n0_; have HO35009 := n1_; have HB := n2_; clear n0_ n1_ n2_; (try clear hb); (try clear hb2); (try clear hk); (try clear hi); (try clear ho0)))
  go_ret
  exact ⟨_, by first | rfl | (simp [errW_none, errW_some] <;> rfl) | (simp [*, errW_none, errW_some] <;> rfl), by (with_reducible repeat (first | apply Kd.R_alloc | apply Kd.R_drewN | apply Kd.R_drew)); exact HO35009.out, by repeat (first | (with_reducible first | exact HB.out | apply below_alloc | apply pw_below_drewN | apply below_drew1) | exact HB.out)⟩

end Go.Proofs.YtefhngadeimklaaDoor.Q
end
section
namespace Go.Proofs.YtefhngadeimklaaDoor.Q
open Go.RowKit Go.Proofs.YtefhngadeimklaaDoorW.PrintWords Go.Proofs.YtefhngadeimklaaDoorW.PrintLast Go.Proofs.YtefhngadeimklaaDoorW.PrintMore
set_option linter.unusedVariables false
set_option linter.unusedSimpArgs false

attribute [local go_sem] max2_int min2_int max_two min_two max_three min_three max_four min_four
/-! ### tinderref19_Save: function 32 -/
def tinderref19_Save.f (k : Nat) (l0 : List Int) (l1 : List (S40)) : Option ((List (S84)) × Int) := (tinderref19_Encode.f k l1).bind fun bt33001 => (if bt33001.2 = 0 then ((tinderref18_Plan.f k l0 bt33001.1).bind fun bt33005 => (some (bt33005.1, bt33005.2))) else (some (([] : List (S84)), bt33001.2)))
set_option maxHeartbeats 8000000 in
set_option maxRecDepth 100000 in
theorem tinderref19_Save.calls (k : Nat) (A0 : Option Addr) (c0 : Nat) (l0 : List Int) (A1 : Option Addr) (c1 : Nat) (l1 : List (S40)) (r1 : List (S84)) (r2 : Int) (w : World) (hr0 : Kd.C (Kd.int .u8) w A0 l0.length l0) (hc0 : l0.length ≤ c0) (hr1 : Kd.C k40 w A1 l1.length l1) (hc1 : l1.length ≤ c1) (h : tinderref19_Save.f k l0 l1 = some (r1, r2)) :
    Calls Tryd.prog 32 #[.slice A0 l0.length c0, .slice A1 l1.length c1] w fun e w' => ∃ v0_ : Value, e = .returned (.tuple #[v0_, .int .i64 r2]) ∧ Kd.R k84 84 w' w.heap.size (fun _ => True) v0_ r1 ∧ Below w.heap.size w w' := by
  have HR0 := Aside0.mk hr0
  have HC0 := Aside0.mk hc0
  clear hr0 hc0
  have HR1 := Aside0.mk hr1
  have HC1 := Aside0.mk hc1
  clear hr1 hc1
  have HB := Aside0.mk (Below.refl w.heap.size w)
  have H : ((tinderref19_Encode.f k l1).bind fun bt33001 => (if bt33001.2 = 0 then ((tinderref18_Plan.f k l0 bt33001.1).bind fun bt33005 => (some (bt33005.1, bt33005.2))) else (some (([] : List (S84)), bt33001.2)))) = some (r1, r2) := h
  clear h
  replace H := Option.bind_eq_some_iff.mp H
  obtain ⟨⟨t33001, t33002⟩, A30, H⟩ := H
  replace H : (if t33002 = 0 then ((tinderref18_Plan.f k l0 t33001).bind fun bt33005 => (some (bt33005.1, bt33005.2))) else (some (([] : List (S84)), t33002))) = some (r1, r2) := H
  have A3 := Aside0.mk A30
  clear A30
  by_cases c4 : t33002 = 0
  · rw [if_pos c4] at H
    have c4b0 : (t33002 == 0) = true := beq_iff_eq.mpr c4
    have c4b1 : (t33002 != 0) = false := bne_eq_false_iff_eq.mpr c4
    clear c4
    replace H := Option.bind_eq_some_iff.mp H
    obtain ⟨⟨t33005, t33006⟩, A50, H⟩ := H
    replace H : (some (t33005, t33006)) = some (r1, r2) := H
    have A5 := Aside0.mk A50
    clear A50
    simp only [Option.some.injEq, Prod.mk.injEq] at H
    obtain ⟨rfl, rfl⟩ := H
    go_enter Tryd.func32, Tryd.ntmps32
    go_wp2_with (first | ((with_reducible refine gate_callee (f := 27) rfl ?_); refine goesL_ (some 10) rfl rfl Tryd.func27 (by kernel_rfl) rfl #[.slice A1 l1.length c1] rfl (by (try simp only [List.map_toArray, List.map_cons, List.map_nil]); first | done | rfl | (simp only [List.length_drop, List.length_take]; rfl)) ?_; (with_reducible refine (tinderref19_Encode.calls k _ _ l1 t33001 t33002 _ ?side1 ?side2 A3.out).mono ?_); (case side1 => repeat (first | exact HR1.out | (with_reducible refine Kd.C_alloc ?_ _) | (with_reducible refine Kd.C_drewN ?_ _) | (with_reducible refine Kd.C_drew ?_))); (case side2 => exact HC1.out); rintro e w6 ⟨v33003, rfl, ho0, hb⟩; refine ⟨_, rfl, ?_⟩; have n0_ := Aside0.mk (Kd.R_lower ho0 (below_size (by repeat (first | (with_reducible first | exact HB.out | apply below_alloc | apply pw_below_drewN | apply below_drew1) | exact HB.out)))); have n1_ := Aside0.mk (below_step (by repeat (first | (with_reducible first | exact HB.out | apply below_alloc | apply pw_below_drewN | apply below_drew1) | exact HB.out)) hb); clear HB; have HO33004 := n0_; have HB := n1_; clear n0_ n1_; (try clear hb); (try clear hb2); (try clear hk); (try clear hi); (try clear ho0); obtain ⟨Ao7, co7, eo7⟩ := Kd.R_slice HO33004.out; subst eo7) | ((with_reducible refine gate_callee (f := 54) rfl ?_); refine goesL_ (some 18) rfl rfl Tryd.func54 (by kernel_rfl) rfl #[.slice A0 l0.length c0, .slice Ao7 t33001.length co7] rfl (by (try simp only [List.map_toArray, List.map_cons, List.map_nil]); first | done | rfl | (simp only [List.length_drop, List.length_take]; rfl)) ?_; (with_reducible refine (tinderref18_Plan.calls k _ _ l0 _ _ t33001 t33005 t33006 _ ?side1 ?side2 ?side3 ?side4 A5.out).mono ?_); (case side1 => repeat (first | exact (Kd.C_below HR0.out HB.out) | (with_reducible refine Kd.C_alloc ?_ _) | (with_reducible refine Kd.C_drewN ?_ _) | (with_reducible refine Kd.C_drew ?_))); (case side2 => exact HC0.out); (case side3 => repeat (first | exact (Kd.R_reads' HO33004.out).2.2 | (with_reducible refine Kd.C_alloc ?_ _) | (with_reducible refine Kd.C_drewN ?_ _) | (with_reducible refine Kd.C_drew ?_))); (case side4 => exact (Kd.R_reads' HO33004.out).2.1); rintro e w8 ⟨v33007, rfl, ho0, hb⟩; refine ⟨_, rfl, ?_⟩; have n0_ := Aside0.mk (Kd.R_below (by (with_reducible repeat (first | apply Kd.R_alloc | apply Kd.R_drewN | apply Kd.R_drew)); exact HO33004.out) hb); have n1_ := Aside0.mk (Kd.R_lower ho0 (below_size (by repeat (first | (with_reducible first | exact HB.out | apply below_alloc | apply pw_below_drewN | apply below_drew1) | exact HB.out)))); have n2_ := Aside0.mk (below_step (by repeat (first | (with_reducible first | exact HB.out | apply below_alloc | apply pw_below_drewN | apply below_drew1) | exact HB.out)) hb); clear HO33004; clear HB; have HO33004 := n0_; have HO33008 := n1_; have HB := n2_; clear n0_ n1_ n2_; (try clear hb); (try clear hb2); (try clear hk); (try clear hi); (try clear ho0)))
    go_ret2
    exact ⟨_, by first | rfl | (simp [errW_none, errW_some] <;> rfl) | (simp [*, errW_none, errW_some] <;> rfl), by (with_reducible repeat (first | apply Kd.R_alloc | apply Kd.R_drewN | apply Kd.R_drew)); exact HO33008.out, by repeat (first | (with_reducible first | exact HB.out | apply below_alloc | apply pw_below_drewN | apply below_drew1) | exact HB.out)⟩
  · rw [if_neg c4] at H
    have c4b0 : (t33002 == 0) = false := beq_eq_false_iff_ne.mpr c4
    have c4b1 : (t33002 != 0) = true := bne_iff_ne.mpr c4
    simp only [Option.some.injEq, Prod.mk.injEq] at H
    obtain ⟨rfl, rfl⟩ := H
    go_enter Tryd.func32, Tryd.ntmps32
    go_wp2_with (first | ((with_reducible refine gate_callee (f := 27) rfl ?_); refine goesL_ (some 10) rfl rfl Tryd.func27 (by kernel_rfl) rfl #[.slice A1 l1.length c1] rfl (by (try simp only [List.map_toArray, List.map_cons, List.map_nil]); first | done | rfl | (simp only [List.length_drop, List.length_take]; rfl)) ?_; (with_reducible refine (tinderref19_Encode.calls k _ _ l1 t33001 t33002 _ ?side1 ?side2 A3.out).mono ?_); (case side1 => repeat (first | exact HR1.out | (with_reducible refine Kd.C_alloc ?_ _) | (with_reducible refine Kd.C_drewN ?_ _) | (with_reducible refine Kd.C_drew ?_))); (case side2 => exact HC1.out); rintro e w9 ⟨v33003, rfl, ho0, hb⟩; refine ⟨_, rfl, ?_⟩; have n0_ := Aside0.mk (Kd.R_lower ho0 (below_size (by repeat (first | (with_reducible first | exact HB.out | apply below_alloc | apply pw_below_drewN | apply below_drew1) | exact HB.out)))); have n1_ := Aside0.mk (below_step (by repeat (first | (with_reducible first | exact HB.out | apply below_alloc | apply pw_below_drewN | apply below_drew1) | exact HB.out)) hb); clear HB; have HO33004 := n0_; have HB := n1_; clear n0_ n1_; (try clear hb); (try clear hb2); (try clear hk); (try clear hi); (try clear ho0)))
    go_ret2
    exact ⟨_, by first | rfl | (simp [errW_none, errW_some] <;> rfl) | (simp [*, errW_none, errW_some] <;> rfl), by first | exact Kd.R_nil _ _ _ _ _ | exact Kd.N_nil _ _ _ _ _ | exact Kd.V_nil _ _ _ _ _ | exact Kd.Q_nil _ _ _ _ _ | exact Kd.S_nil _ _ _ _ _, by repeat (first | (with_reducible first | exact HB.out | apply below_alloc | apply pw_below_drewN | apply below_drew1) | exact HB.out)⟩

end Go.Proofs.YtefhngadeimklaaDoor.Q
end
section
namespace Go.Proofs.YtefhngadeimklaaDoor.Q
open Go.RowKit Go.Proofs.YtefhngadeimklaaDoorW.PrintWords Go.Proofs.YtefhngadeimklaaDoorW.PrintLast Go.Proofs.YtefhngadeimklaaDoorW.PrintMore
set_option linter.unusedVariables false
attribute [local go_sem] max2_int min2_int max_two min_two max_three min_three max_four min_four
set_option maxHeartbeats 1000000 in
theorem named_calls (s : ByteArray) (w : World) :
    Calls Tryd.prog 40 #[.string s] w fun e w' => ∃ gb, e = .returned (.func (.func 58) #[] #[.pointer (some ⟨gb, 0, none⟩)]) ∧ w.heap.size ≤ gb ∧ w'.heap[gb]? = some (.cells #[.string s] 9 (0, 0)) ∧ Below w.heap.size w w' := by
  have HB := Aside0.mk (Below.refl w.heap.size w)
  go_enter Tryd.func40, Tryd.ntmps40
  go_wp2_with (first
    | ((with_reducible refine gate_dst (N := 1) rfl ?_); refine box_event ?hg (N := 1) ?hd (cs := #[.string s]) (t := 9) ?hr ?_; (case hd => rfl); (case hg => rfl); (case hr => first | (go_simp; done) | (go_simp; rfl)); intro gb hg w1 hbox hb; have BK := Aside0.mk hbox; have HB := Aside0.mk hb; have GB := Aside0.mk (show w.heap.size ≤ gb from hg ▸ Nat.le_refl _); clear hbox hb hg))
  go_ret
  exact ⟨gb, rfl, GB.out, BK.out, HB.out⟩
/-- The first place of a name; -1: none. -/
def idxN (s : ByteArray) : List S40 → Int
  | [] => -1
  | x :: r => if x.f0.toList = s.toList then 0 else if idxN s r < 0 then -1 else idxN s r + 1
set_option maxHeartbeats 1000000 in
theorem indexNil_calls (fn : Value) (w : World) :
    Calls Tryd.prog 41 #[.slice none 0 0, fn] w fun e w' => e = .returned (.int .i64 (-1)) ∧ Below w.heap.size w w' := by
  have HB := Aside0.mk (Below.refl w.heap.size w)
  go_enter Tryd.func41, Tryd.ntmps41
  go_wp2
  go_loopg [8] 0 (fun kq v8 w' => v8 = .int .i64 0 ∧ w' = w)
  case atStart => exact ⟨rfl, rfl⟩
  case round =>
    obtain ⟨rfl, rfl⟩ := hrel
    cases gk with
    | zero =>
      go_wp2
      go_ret
      exact ⟨rfl, HB.out⟩
    | succ k1 =>
      go_wp2
      go_ret
      exact ⟨rfl, HB.out⟩
set_option maxHeartbeats 1000000 in
theorem deleteNil_calls (fn : Value) (w : World) :
    Calls Tryd.prog 38 #[.slice none 0 0, fn] w fun e w' => e = .returned (.slice none 0 0) ∧ Below w.heap.size w w' := by
  have HI := Aside0.mk (fun W => indexNil_calls fn W)
  go_enter Tryd.func38, Tryd.ntmps38
  go_wp2_with (first
    | (go_at_call 41; (with_reducible refine (HI.out _).mono ?_); rintro e w2 ⟨rfl, hb⟩; have HB := Aside0.mk hb; clear hb))
  go_ret
  exact ⟨rfl, HB.out⟩
set_option maxHeartbeats 4000000 in
set_option maxRecDepth 100000 in
theorem cloneNil_calls (w : World) :
    Calls Tryd.prog 39 #[.slice none 0 0] w fun e w' => e = .returned (.slice none 0 0) ∧ Below w.heap.size w w' := by
  have HB := Aside0.mk (Below.refl w.heap.size w)
  have q : ∀ (w : World) (a : Option Addr) (n c n' c' : Nat), (binOp .eql 22 (.slice a n c) (.slice none n' c')).run Tryd.prog w = .ok (.bool a.isNone) w := fun w a n c n' c' => Lib.run_eql_slice_nil w _ _ a n c n' c' Tryd.underlying22
  go_enter Tryd.func39, Tryd.ntmps39
  go_wp2
  go_ret
  exact ⟨rfl, HB.out⟩
set_option maxHeartbeats 4000000 in
set_option maxRecDepth 100000 in
theorem insertNil_calls (A : Addr) (x : S40) (w : World) (hC : Kd.C k40 w (some A) 1 [x]) :
    Calls Tryd.prog 43 #[.slice none 0 0, .int .i64 0, .slice (some A) 1 1] w fun e w' => ∃ v, e = .returned v ∧ Kd.R k40 40 w' w.heap.size (fun _ => True) v [x] ∧ Below w.heap.size w w' := by
  have HR0 := Aside0.mk hC
  have HB := Aside0.mk (Below.refl w.heap.size w)
  clear hC
  go_enter Tryd.func43, Tryd.ntmps43
  go_wp2_with (first
    | ((with_reducible refine gate_builtin (b := .append) (xs := #[.tmp 23, .tmp 24]) rfl ?_); at_builtin; refine Kd.R_append_rows k40 (w0 := w) w.heap.size rfl (.tmp 23) (.tmp 24) 22 40 (.agg #[(.string ⟨#[]⟩), (.string ⟨#[]⟩)]) 32 rfl Tryd.underlying22 info40 rfl (by decide) (by omega) (.slice none 0 0) ([] : List (S40)) [x] _ _ _ (fun _ => True) (fun _ => False) rfl rfl ?aO ?aR (fun _ _ h => h) (fun _ h => h.elim) ?aF ?aB ?aS ?aL ?_; (case aR => exact HR0.out); (case aB => exact HB.out); (case aF => exact (fun _ _ => trivial)); (case aO => exact ((Kd.R_nil _ _ _ _ (fun _ => True)))); (case aS => exact Nat.le_refl _); (case aL => decide); intro v13002 w3 ho hb hg hat; have n0_ := Aside0.mk (hb); have n1_ := Aside0.mk (ho); clear HB; have HB := n0_; have HO13003 := n1_; clear n0_ n1_; clear ho hb hg hat))
  go_ret
  exact ⟨_, rfl, HO13003.out, HB.out⟩
end Go.Proofs.YtefhngadeimklaaDoor.Q
end
