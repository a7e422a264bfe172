/- The reference's bank. -/
import Derived.Test.YtlpagilpbdiniaaHNvDec
import Derived.Test.YtlpagilpbdiniaaHNvRecover
import Derived.Test.YtlpagilpbdiniaaQTinderref18Sum
namespace Go.Proofs.Ytlpagilpbdiniaa.Q
open Go.RowKit Go.Proofs.YtlpagilpbdiniaaW.PrintWords Go.Proofs.YtlpagilpbdiniaaW.PrintLast Go.Proofs.YtlpagilpbdiniaaW.PrintMore
def bankR (B : List Int) : Int × List Int × Bool :=
  if rd B 0 = 165 ∧ lenF B ≤ 248 then (rd B 1, (B.drop 8).take (lenF B).toNat, beF (B.drop 4) == sumF (rd B 1) ((B.drop 8).take (lenF B).toNat)) else (0, [], false)
set_option maxHeartbeats 4000000 in
set_option maxRecDepth 100000 in
theorem bank_calls (A0 : Option Addr) (c0 : Nat) (nv : List Int) (k : Int) (w : World) (hk : k = 0 ∨ k = 1) (hr0 : Kd.C (Kd.int .u8) w A0 512 nv) (hc0 : 512 ≤ c0) (hb0 : Bytes nv) :
    Calls Try.prog 28 #[.slice A0 512 c0, .int .i64 k] w fun e w' => ∃ (A : Option Addr) (c : Nat), e = .returned (.tuple #[.int .u8 (bankR (bankF nv k)).1, .slice A (bankR (bankF nv k)).2.1.length c, .bool (bankR (bankF nv k)).2.2]) ∧ Kd.C (Kd.int .u8) w A (bankR (bankF nv k)).2.1.length (bankR (bankF nv k)).2.1 ∧ (bankR (bankF nv k)).2.1.length ≤ c ∧ Below w.heap.size w w' := by
  have hl := Kd.C_len hr0
  obtain ⟨B, hB⟩ : ∃ B, B = bankF nv k := ⟨_, rfl⟩
  have hBl : B.length = 256 := by rw [hB]; exact bankF_len hl k
  have hBb : Bytes B := by rw [hB]; exact bankF_bytes hb0 k
  rw [← hB]
  obtain ⟨R, hR⟩ : ∃ R, R = bankR B := ⟨_, rfl⟩
  rw [← hR]
  obtain ⟨ad0, ea, -⟩ := Kd.at_int hr0 0 (by omega) (by omega)
  subst ea
  obtain ⟨ad, had⟩ : ∃ ad : Addr, ad = ad0.add (256 * k).toNat := ⟨_, rfl⟩
  obtain ⟨c, hcc⟩ : ∃ c, c = c0 - (256 * k).toNat := ⟨_, rfl⟩
  have hcB : Kd.C (Kd.int .u8) w (some ad) 256 B := by
    have h := C_cut hr0 hc0 (256 * k).toNat 256 (by omega)
    unfold cutAt at h
    rw [if_neg (by omega)] at h
    have e1 : (256 * k).toNat * (Kd.int .u8).sz = (256 * k).toNat := Nat.mul_one _
    rw [e1] at h
    have e2 : (nv.drop (256 * k).toNat).take 256 = B := by
      rw [hB]
      unfold bankF
      rcases hk with rfl | rfl
      · rfl
      · exact List.take_of_length_le (by rw [List.length_drop]; omega)
    rw [e2] at h
    rw [had]
    exact h
  have hcut1 : ∀ W : World, (Instr.slice 22 (.slice (some ad0) 512 c0) (some (.int .i64 (256 * k))) (some (.int .i64 (256 * k + 256))) none).run Try.prog W = .ok (.slice (some ad) 256 c) W := fun W => by
    rw [run_cut_lohi (P := Try.prog) (sz := 1) Try.underlying22 (by kernel_rfl) (some ad0) 512 c0 (256 * k) (256 * k + 256) (by omega) (by omega) (by omega)]
    unfold cutAt
    rw [if_neg (by omega), show (256 * k + 256).toNat - (256 * k).toNat = 256 by omega, Nat.mul_one, had, hcc]
    rfl
  have hx : ∀ i : Int, 0 ≤ i → i < 256 → w.cell? (ad.add i.toNat) = some (.int .u8 (rd B i)) := fun i h0 h1 => by
    obtain ⟨ad', ea, h⟩ := Kd.at_int hcB i h0 (by omega)
    cases ea
    exact h
  have hrr : ∀ i : Int, 0 ≤ i → i < 256 → 0 ≤ rd B i ∧ rd B i < 256 := fun i h0 h1 => by
    have : rd B i = B[i.toNat]'(by omega) := by simp [rd, List.getD_eq_getElem?_getD, List.getElem?_eq_getElem (show i.toNat < B.length by omega)]
    rw [this]
    exact hBb _ (List.getElem_mem _)
  have h0 := Aside0.mk (show w.cell? ad = some (.int .u8 (rd B 0)) by have h := hx 0 (by omega) (by omega); rwa [show (0 : Int).toNat = 0 from rfl, Addr_add_zero] at h)
  have h1 := Aside0.mk (show w.cell? ⟨ad.block, ad.off + 1, none⟩ = some (.int .u8 (rd B 1)) from hx 1 (by omega) (by omega))
  have h2 := Aside0.mk (show w.cell? ⟨ad.block, ad.off + 2, none⟩ = some (.int .u8 (rd B 2)) from hx 2 (by omega) (by omega))
  have h3 := Aside0.mk (show w.cell? ⟨ad.block, ad.off + 3, none⟩ = some (.int .u8 (rd B 3)) from hx 3 (by omega) (by omega))
  have b2 := hrr 2 (by omega) (by omega)
  have b3 := hrr 3 (by omega) (by omega)
  obtain ⟨n, hn⟩ : ∃ n, n = lenF B := ⟨_, rfl⟩
  have hn0 : 0 ≤ n := by rw [hn]; unfold lenF; omega
  have hwk1 : IntKind.i64.wrap (256 * k) = 256 * k := (i64_w _).trans (by unfold wrap64; omega)
  have hwk2 : IntKind.i64.wrap (256 * k + 256) = 256 * k + 256 := (i64_w _).trans (by unfold wrap64; omega)
  have hwn : IntKind.i64.wrap (IntKind.i64.wrap (256 * IntKind.i64.wrap (rd B 2)) + IntKind.i64.wrap (rd B 3)) = n := by
    have e : ∀ x : Int, 0 ≤ x → x < 1000000 → IntKind.i64.wrap x = x := fun x h1 h2 => (i64_w _).trans (by unfold wrap64; omega)
    rw [e (rd B 2) (by omega) (by omega), e (rd B 3) (by omega) (by omega), e (256 * rd B 2) (by omega) (by omega), e _ (by omega) (by omega), hn]
    unfold lenF
    omega
  have HC256 := Aside0.mk (show 256 ≤ c by omega)
  have HCB := Aside0.mk hcB
  have HBB := Aside0.mk hBb
  have HBL := Aside0.mk hBl
  unfold bankR at hR
  rw [← hn] at hR
  have HRR := Aside0.mk hR
  have hc00 : w.cell? ad = some (.int .u8 (rd B 0)) := h0.out
  clear hR hn b2 b3 hrr hx hcB hcc had hBb hBl hB hl hb0
  go_enter Try.func28, Try.ntmps28
  go_wp2
  refine start_ (n := 11) (S := fun w' => w'.cell? ⟨ad.block, ad.off + 2, none⟩ = some (.int .u8 (rd B 2)) ∧ w'.cell? ⟨ad.block, ad.off + 3, none⟩ = some (.int .u8 (rd B 3))) (ds := []) #[false, false, false, false, false, false, false, false, false, false, false] (by kernel_rfl) rfl rfl ⟨h2.out, h3.out⟩ (fun hHeld => ?_)
  refine pure_ (i := 0) (N := some 19) (v := ?_) (a' := ?_) #[true, false, false, false, false, false, false, false, false, false, false] rfl rfl (by kernel_rfl) (fun _ _ _ h => h) (Or.inl ⟨by rfl, ?_⟩) ?_ ?_
  rotate_left
  · intro w'
    go_simp
    with_reducible rfl
  rotate_left
  · simp only [Act.put, List.setIfInBounds_toArray, List.set_cons_zero, List.set_cons_succ]
    rfl
  refine pure_ (i := 1) (N := some 20) (v := ?_) (a' := ?_) #[true, true, false, false, false, false, false, false, false, false, false] rfl rfl (by kernel_rfl) (fun _ _ _ h => h) (Or.inl ⟨by rfl, ?_⟩) ?_ ?_
  rotate_left
  · intro w'
    go_simp
    with_reducible rfl
  rotate_left
  · simp only [Act.put, List.setIfInBounds_toArray, List.set_cons_zero, List.set_cons_succ]
    rfl
  refine take_ (i := 2) (N := some 21) (v := .int .u8 (rd B 2)) (a' := ?_) #[true, true, true, false, false, false, false, false, false, false, false] rfl rfl (by kernel_rfl) (fun _ _ _ h => h) (Or.inl ⟨by rfl, ?_⟩) hHeld ?_ ?_
  rotate_left
  rotate_left
  · simp only [Act.put, List.setIfInBounds_toArray, List.set_cons_zero, List.set_cons_succ]
    rfl
  rotate_left
  · rintro w' ⟨s0, s1⟩
    go_simp
  refine pure_ (i := 3) (N := some 22) (v := ?_) (a' := ?_) #[true, true, true, true, false, false, false, false, false, false, false] rfl rfl (by kernel_rfl) (fun _ _ _ h => h) (Or.inl ⟨by rfl, ?_⟩) ?_ ?_
  rotate_left
  · intro w'
    go_simp
    with_reducible rfl
  rotate_left
  · simp only [Act.put, List.setIfInBounds_toArray, List.set_cons_zero, List.set_cons_succ]
    rfl
  refine pure_ (i := 4) (N := some 23) (v := ?_) (a' := ?_) #[true, true, true, true, true, false, false, false, false, false, false] rfl rfl (by kernel_rfl) (fun _ _ _ h => h) (Or.inl ⟨by rfl, ?_⟩) ?_ ?_
  rotate_left
  · intro w'
    go_simp
    with_reducible rfl
  rotate_left
  · simp only [Act.put, List.setIfInBounds_toArray, List.set_cons_zero, List.set_cons_succ]
    rfl
  refine pure_ (i := 5) (N := some 24) (v := ?_) (a' := ?_) #[true, true, true, true, true, true, false, false, false, false, false] rfl rfl (by kernel_rfl) (fun _ _ _ h => h) (Or.inl ⟨by rfl, ?_⟩) ?_ ?_
  rotate_left
  · intro w'
    go_simp
    with_reducible rfl
  rotate_left
  · simp only [Act.put, List.setIfInBounds_toArray, List.set_cons_zero, List.set_cons_succ]
    rfl
  refine pure_ (i := 6) (N := some 25) (v := ?_) (a' := ?_) #[true, true, true, true, true, true, true, false, false, false, false] rfl rfl (by kernel_rfl) (fun _ _ _ h => h) (Or.inl ⟨by rfl, ?_⟩) ?_ ?_
  rotate_left
  · intro w'
    go_simp
    with_reducible rfl
  rotate_left
  · simp only [Act.put, List.setIfInBounds_toArray, List.set_cons_zero, List.set_cons_succ]
    rfl
  refine take_ (i := 7) (N := some 26) (v := .int .u8 (rd B 3)) (a' := ?_) #[true, true, true, true, true, true, true, true, false, false, false] rfl rfl (by kernel_rfl) (fun _ _ _ h => h) (Or.inl ⟨by rfl, ?_⟩) hHeld ?_ ?_
  rotate_left
  rotate_left
  · simp only [Act.put, List.setIfInBounds_toArray, List.set_cons_zero, List.set_cons_succ]
    rfl
  rotate_left
  · rintro w' ⟨s0, s1⟩
    go_simp
  refine pure_ (i := 8) (N := some 27) (v := ?_) (a' := ?_) #[true, true, true, true, true, true, true, true, true, false, false] rfl rfl (by kernel_rfl) (fun _ _ _ h => h) (Or.inl ⟨by rfl, ?_⟩) ?_ ?_
  rotate_left
  · intro w'
    go_simp
    with_reducible rfl
  rotate_left
  · simp only [Act.put, List.setIfInBounds_toArray, List.set_cons_zero, List.set_cons_succ]
    rfl
  refine pure_ (i := 9) (N := some 28) (v := ?_) (a' := ?_) #[true, true, true, true, true, true, true, true, true, true, false] rfl rfl (by kernel_rfl) (fun _ _ _ h => h) (Or.inl ⟨by rfl, ?_⟩) ?_ ?_
  rotate_left
  · intro w'
    go_simp
    with_reducible rfl
  rotate_left
  · simp only [Act.put, List.setIfInBounds_toArray, List.set_cons_zero, List.set_cons_succ]
    rfl
  refine pure_ (i := 10) (N := some 8) (v := ?_) (a' := ?_) #[true, true, true, true, true, true, true, true, true, true, true] rfl rfl (by kernel_rfl) (fun _ _ _ h => h) (Or.inl ⟨by rfl, ?_⟩) ?_ ?_
  rotate_left
  · intro w'
    go_simp
    with_reducible rfl
  rotate_left
  · simp only [Act.put, List.setIfInBounds_toArray, List.set_cons_zero, List.set_cons_succ]
    rfl
  refine done_ (n := 0) (by kernel_rfl) ?_
  by_cases c0' : rd B 0 = 165
  · have d0 : (rd B 0 != 165) = false := by simp [c0']
    by_cases c1' : n ≤ 248
    · have d1 : decide (248 < n) = false := decide_eq_false (by omega)
      have e8 : IntKind.i64.wrap (8 + n) = 8 + n := (i64_w _).trans (by unfold wrap64; omega)
      have hR := HRR.out
      rw [if_pos ⟨c0', c1'⟩] at hR
      obtain ⟨d, hd⟩ : ∃ d, d = (B.drop 8).take n.toNat := ⟨_, rfl⟩
      rw [← hd] at hR
      have HR := Aside0.mk hR
      have hdl : d.length = n.toNat := by rw [hd, List.length_take, List.length_drop]; have := HBL.out; omega
      have HDL := Aside0.mk hdl
      have HN := Aside0.mk c1'
      have hcut4 : ∀ W : World, (Instr.slice 22 (.slice (some ad) 256 c) (some (.int .i64 4)) none none).run Try.prog W = .ok (.slice (some (ad.add 4)) 252 (c - 4)) W := fun W => by
        rw [run_cut_lo (P := Try.prog) (sz := 1) Try.underlying22 (by kernel_rfl) (some ad) 256 c 4 (by omega) (by omega)]
        unfold cutAt
        rw [if_neg (by have := HC256.out; omega)]
        rfl
      have hcut8 : ∀ W : World, (Instr.slice 22 (.slice (some ad) 256 c) (some (.int .i64 8)) (some (.int .i64 (8 + n))) none).run Try.prog W = .ok (.slice (some (ad.add 8)) n.toNat (c - 8)) W := fun W => by
        rw [run_cut_lohi (P := Try.prog) (sz := 1) Try.underlying22 (by kernel_rfl) (some ad) 256 c 8 (8 + n) (by omega) (by omega) (by have := HC256.out; omega)]
        unfold cutAt
        rw [if_neg (by have := HC256.out; omega), show (8 + n).toNat - (8 : Int).toNat = n.toNat by omega]
        rfl
      have HC4 := Aside0.mk (show Kd.C (Kd.int .u8) w (some (ad.add 4)) 252 (B.drop 4) from by
        have h := C_cut HCB.out HC256.out 4 252 (by omega)
        unfold cutAt at h
        rw [if_neg (by have := HC256.out; omega), List.take_of_length_le (by rw [List.length_drop]; have := HBL.out; omega)] at h
        exact h)
      have HC8 := Aside0.mk (show Kd.C (Kd.int .u8) w (some (ad.add 8)) n.toNat d from by
        have h := C_cut HCB.out HC256.out 8 n.toNat (by omega)
        unfold cutAt at h
        rw [if_neg (by have := HC256.out; omega), ← hd] at h
        exact h)
      have HDe := Aside0.mk (show ∀ W : World, Kd.C (Kd.int .u8) W (some (ad.add 4)) 252 (B.drop 4) → Calls Try.prog 33 #[.slice (some (ad.add 4)) 252 (c - 4)] W (fun e w' => ∃ v : Value, e = .returned (.tuple #[.int .u32 (beF (B.drop 4)), v, .int .i64 0]) ∧ Below W.heap.size W w') from fun W h => by
        have hl4 : (B.drop 4).length = 252 := by rw [List.length_drop]; have := HBL.out; omega
        have h' := decode_calls (some (ad.add 4)) (c - 4) (B.drop 4) W (by rw [hl4]; exact h) (by rw [hl4]; have := HC256.out; omega) (by omega)
        rw [hl4] at h'
        exact h')
      have HSum := Aside0.mk (show ∀ W : World, Kd.C (Kd.int .u8) W (some (ad.add 8)) n.toNat d → Calls Try.prog 12 #[.int .u8 (rd B 1), .slice (some (ad.add 8)) n.toNat (c - 8)] W (fun e w' => e = .returned (.int .u32 (sumF (rd B 1) d)) ∧ Below W.heap.size W w') from fun W h => by
        have hbd : Bytes d := by rw [hd]; exact (HBB.out.drop _).take _
        have hb1 : 0 ≤ rd B 1 ∧ rd B 1 < 256 := by
          have hl := HBL.out
          have : rd B 1 = B[1]'(by omega) := by simp [rd, List.getD_eq_getElem?_getD, List.getElem?_eq_getElem (show 1 < B.length by omega)]
          rw [this]
          exact HBB.out _ (List.getElem_mem _)
        rw [← hdl] at h ⊢
        exact tinderref18_Sum.calls (d.length + 10) _ _ _ _ _ _ h (by have := HC256.out; omega) (ref18_Sum_eq _ _ _ hb1 hbd (by omega) (by omega)))
      clear c0' c1' hR hd hdl
      go_wp2_with (first
        | (go_at_call 33; refine (HDe.out _ (Kd.C_drew HC4.out)).mono ?_; rintro e w1 ⟨v, rfl, hb⟩; have HB1 := Aside0.mk (below_step (below_drew (Below.refl _ _)) hb); clear hb hc00))
      have hc1 := (HB1.out.cell (World.block_lt_of_cell? w _ h1.out)).trans h1.out
      refine start_ (n := 20) (S := fun w' => w'.cell? ⟨ad.block, ad.off + 1, none⟩ = some (.int .u8 (rd B 1))) (ds := []) #[false, false, false, false, false, false, false, false, false, false, false, false, false, false, false, false, false, false, false, false] (by kernel_rfl) rfl rfl hc1 (fun hHeld => ?_)
      refine pure_ (i := 0) (N := some 44) (v := ?_) (a' := ?_) #[true, false, false, false, false, false, false, false, false, false, false, false, false, false, false, false, false, false, false, false] rfl rfl (by kernel_rfl) (fun _ _ _ h => h) (Or.inl ⟨by rfl, ?_⟩) ?_ ?_
      rotate_left
      · intro w'
        go_simp
        with_reducible rfl
      rotate_left
      · simp only [Act.put, List.setIfInBounds_toArray, List.set_cons_zero, List.set_cons_succ]
        rfl
      refine pure_ (i := 1) (N := some 45) (v := ?_) (a' := ?_) #[true, true, false, false, false, false, false, false, false, false, false, false, false, false, false, false, false, false, false, false] rfl rfl (by kernel_rfl) (fun _ _ _ h => h) (Or.inl ⟨by rfl, ?_⟩) ?_ ?_
      rotate_left
      · intro w'
        go_simp
        with_reducible rfl
      rotate_left
      · simp only [Act.put, List.setIfInBounds_toArray, List.set_cons_zero, List.set_cons_succ]
        rfl
      refine take_ (i := 2) (N := some 46) (v := .int .u8 (rd B 1)) (a' := ?_) #[true, true, true, false, false, false, false, false, false, false, false, false, false, false, false, false, false, false, false, false] rfl rfl (by kernel_rfl) (fun _ _ _ h => h) (Or.inl ⟨by rfl, ?_⟩) hHeld ?_ ?_
      rotate_left
      rotate_left
      · simp only [Act.put, List.setIfInBounds_toArray, List.set_cons_zero, List.set_cons_succ]
        rfl
      rotate_left
      · rintro w' s0
        go_simp
      refine pure_ (i := 3) (N := some 47) (v := ?_) (a' := ?_) #[true, true, true, true, false, false, false, false, false, false, false, false, false, false, false, false, false, false, false, false] rfl rfl (by kernel_rfl) (fun _ _ _ h => h) (Or.inl ⟨by rfl, ?_⟩) ?_ ?_
      rotate_left
      · intro w'
        go_simp
        with_reducible rfl
      rotate_left
      · simp only [Act.put, List.setIfInBounds_toArray, List.set_cons_zero, List.set_cons_succ]
        rfl
      refine pure_ (i := 4) (N := some 48) (v := ?_) (a' := ?_) #[true, true, true, true, true, false, false, false, false, false, false, false, false, false, false, false, false, false, false, false] rfl rfl (by kernel_rfl) (fun _ _ _ h => h) (Or.inl ⟨by rfl, ?_⟩) ?_ ?_
      rotate_left
      · intro w'
        go_simp
        with_reducible rfl
      rotate_left
      · simp only [Act.put, List.setIfInBounds_toArray, List.set_cons_zero, List.set_cons_succ]
        rfl
      refine pure_ (i := 5) (N := some 49) (v := ?_) (a' := ?_) #[true, true, true, true, true, true, false, false, false, false, false, false, false, false, false, false, false, false, false, false] rfl rfl (by kernel_rfl) (fun _ _ _ h => h) (Or.inl ⟨by rfl, ?_⟩) ?_ ?_
      rotate_left
      · intro w'
        go_simp
        with_reducible rfl
      rotate_left
      · simp only [Act.put, List.setIfInBounds_toArray, List.set_cons_zero, List.set_cons_succ]
        rfl
      refine pure_ (i := 6) (N := some 50) (v := ?_) (a' := ?_) #[true, true, true, true, true, true, true, false, false, false, false, false, false, false, false, false, false, false, false, false] rfl rfl (by kernel_rfl) (fun _ _ _ h => h) (Or.inl ⟨by rfl, ?_⟩) ?_ ?_
      rotate_left
      · intro w'
        go_simp
        with_reducible rfl
      rotate_left
      · simp only [Act.put, List.setIfInBounds_toArray, List.set_cons_zero, List.set_cons_succ]
        rfl
      refine pure_ (i := 7) (N := some 51) (v := ?_) (a' := ?_) #[true, true, true, true, true, true, true, true, false, false, false, false, false, false, false, false, false, false, false, false] rfl rfl (by kernel_rfl) (fun _ _ _ h => h) (Or.inl ⟨by rfl, ?_⟩) ?_ ?_
      rotate_left
      · intro w'
        go_simp
        with_reducible rfl
      rotate_left
      · simp only [Act.put, List.setIfInBounds_toArray, List.set_cons_zero, List.set_cons_succ]
        rfl
      refine pure_ (i := 8) (N := some 52) (v := ?_) (a' := ?_) #[true, true, true, true, true, true, true, true, true, false, false, false, false, false, false, false, false, false, false, false] rfl rfl (by kernel_rfl) (fun _ _ _ h => h) (Or.inl ⟨by rfl, ?_⟩) ?_ ?_
      rotate_left
      · intro w'
        go_simp
        with_reducible rfl
      rotate_left
      · simp only [Act.put, List.setIfInBounds_toArray, List.set_cons_zero, List.set_cons_succ]
        rfl
      refine pure_ (i := 9) (N := some 53) (v := ?_) (a' := ?_) #[true, true, true, true, true, true, true, true, true, true, false, false, false, false, false, false, false, false, false, false] rfl rfl (by kernel_rfl) (fun _ _ _ h => h) (Or.inl ⟨by rfl, ?_⟩) ?_ ?_
      rotate_left
      · intro w'
        go_simp
        with_reducible rfl
      rotate_left
      · simp only [Act.put, List.setIfInBounds_toArray, List.set_cons_zero, List.set_cons_succ]
        rfl
      refine take_ (i := 10) (N := some 54) (v := .int .u8 (rd B 1)) (a' := ?_) #[true, true, true, true, true, true, true, true, true, true, true, false, false, false, false, false, false, false, false, false] rfl rfl (by kernel_rfl) (fun _ _ _ h => h) (Or.inl ⟨by rfl, ?_⟩) hHeld ?_ ?_
      rotate_left
      rotate_left
      · simp only [Act.put, List.setIfInBounds_toArray, List.set_cons_zero, List.set_cons_succ]
        rfl
      rotate_left
      · rintro w' s0
        go_simp
      refine pure_ (i := 11) (N := some 55) (v := ?_) (a' := ?_) #[true, true, true, true, true, true, true, true, true, true, true, true, false, false, false, false, false, false, false, false] rfl rfl (by kernel_rfl) (fun _ _ _ h => h) (Or.inl ⟨by rfl, ?_⟩) ?_ ?_
      rotate_left
      · intro w'
        go_simp
        with_reducible rfl
      rotate_left
      · simp only [Act.put, List.setIfInBounds_toArray, List.set_cons_zero, List.set_cons_succ]
        rfl
      refine pure_ (i := 12) (N := some 56) (v := ?_) (a' := ?_) #[true, true, true, true, true, true, true, true, true, true, true, true, true, false, false, false, false, false, false, false] rfl rfl (by kernel_rfl) (fun _ _ _ h => h) (Or.inl ⟨by rfl, ?_⟩) ?_ ?_
      rotate_left
      · intro w'
        go_simp
        with_reducible rfl
      rotate_left
      · simp only [Act.put, List.setIfInBounds_toArray, List.set_cons_zero, List.set_cons_succ]
        rfl
      refine pure_ (i := 13) (N := some 57) (v := ?_) (a' := ?_) #[true, true, true, true, true, true, true, true, true, true, true, true, true, true, false, false, false, false, false, false] rfl rfl (by kernel_rfl) (fun _ _ _ h => h) (Or.inl ⟨by rfl, ?_⟩) ?_ ?_
      rotate_left
      · intro w'
        go_simp
        with_reducible rfl
      rotate_left
      · simp only [Act.put, List.setIfInBounds_toArray, List.set_cons_zero, List.set_cons_succ]
        rfl
      refine pure_ (i := 14) (N := some 58) (v := ?_) (a' := ?_) #[true, true, true, true, true, true, true, true, true, true, true, true, true, true, true, false, false, false, false, false] rfl rfl (by kernel_rfl) (fun _ _ _ h => h) (Or.inl ⟨by rfl, ?_⟩) ?_ ?_
      rotate_left
      · intro w'
        go_simp
        with_reducible rfl
      rotate_left
      · simp only [Act.put, List.setIfInBounds_toArray, List.set_cons_zero, List.set_cons_succ]
        rfl
      refine one_ (i := 15) (N := some 59) #[true, true, true, true, true, true, true, true, true, true, true, true, true, true, true, true, false, false, false, false] rfl rfl (by kernel_rfl) (by decide) (fun K hK => ?_)
      refine goes_ Try.func12 (by kernel_rfl) rfl #[.int .u8 (rd B 1), .slice (some (ad.add 8)) n.toNat (c - 8)] (by rfl) rfl rfl (by first | rfl | (simp only [List.map_toArray, List.map_cons, List.map_nil]; rfl)) ?_
      refine (HSum.out _ (Kd.C_below HC8.out (below_drew HB1.out))).mono ?_
      rintro e w2 ⟨rfl, hb⟩
      have HB2 := Aside0.mk (below_step (below_drew HB1.out) hb)
      refine ⟨_, rfl, hK.out _ _ ((HB2.out.cell (World.block_lt_of_cell? w _ h1.out)).trans h1.out) (fun hHeld => ?_)⟩
      clear hb
      clear hK K
      simp only [Act.put, List.setIfInBounds_toArray, List.set_cons_zero, List.set_cons_succ]
      refine pure_ (i := 16) (N := some 60) (v := ?_) (a' := ?_) #[true, true, true, true, true, true, true, true, true, true, true, true, true, true, true, true, true, false, false, false] rfl rfl (by kernel_rfl) (fun _ _ _ h => h) (Or.inl ⟨by rfl, ?_⟩) ?_ ?_
      rotate_left
      · intro w'
        go_simp
        with_reducible rfl
      rotate_left
      · simp only [Act.put, List.setIfInBounds_toArray, List.set_cons_zero, List.set_cons_succ]
        rfl
      refine pure_ (i := 17) (N := some 4) (v := ?_) (a' := ?_) #[true, true, true, true, true, true, true, true, true, true, true, true, true, true, true, true, true, true, false, false] rfl rfl (by kernel_rfl) (fun _ _ _ h => h) (Or.inl ⟨by rfl, ?_⟩) ?_ ?_
      rotate_left
      · intro w'
        go_simp
        with_reducible rfl
      rotate_left
      · simp only [Act.put, List.setIfInBounds_toArray, List.set_cons_zero, List.set_cons_succ]
        rfl
      refine pure_ (i := 18) (N := some 5) (v := ?_) (a' := ?_) #[true, true, true, true, true, true, true, true, true, true, true, true, true, true, true, true, true, true, true, false] rfl rfl (by kernel_rfl) (fun _ _ _ h => h) (Or.inl ⟨by rfl, ?_⟩) ?_ ?_
      rotate_left
      · intro w'
        go_simp
        with_reducible rfl
      rotate_left
      · simp only [Act.put, List.setIfInBounds_toArray, List.set_cons_zero, List.set_cons_succ]
        rfl
      refine pure_ (i := 19) (N := some 6) (v := ?_) (a' := ?_) #[true, true, true, true, true, true, true, true, true, true, true, true, true, true, true, true, true, true, true, true] rfl rfl (by kernel_rfl) (fun _ _ _ h => h) (Or.inl ⟨by rfl, ?_⟩) ?_ ?_
      rotate_left
      · intro w'
        go_simp
        with_reducible rfl
      rotate_left
      · simp only [Act.put, List.setIfInBounds_toArray, List.set_cons_zero, List.set_cons_succ]
        rfl
      refine done_ (n := 0) (by kernel_rfl) ?_
      go_wp2
      go_ret3
      rw [HR.out]
      refine ⟨some (ad.add 8), c - 8, by rw [show (rd B 1, d, beF (B.drop 4) == sumF (rd B 1) d).2.1.length = n.toNat from HDL.out]; rfl, ?_, ?_, HB2.out⟩
      · rw [show (rd B 1, d, beF (B.drop 4) == sumF (rd B 1) d).2.1.length = n.toNat from HDL.out]
        exact HC8.out
      · show d.length ≤ c - 8
        have := HDL.out
        have := HN.out
        have := HC256.out
        omega
    · have d1 : decide (248 < n) = true := decide_eq_true (by omega)
      have hR := HRR.out
      rw [if_neg (fun x => c1' x.2)] at hR
      have HR := Aside0.mk hR
      clear c0' c1' hR
      go_wp2
      go_ret3
      rw [HR.out]
      exact ⟨none, 0, rfl, Kd.C_nil _ _, by simp, below_drew (Below.refl _ _)⟩
  · have d0 : (rd B 0 != 165) = true := by simp [c0']
    have hR := HRR.out
    rw [if_neg (fun x => c0' x.1)] at hR
    have HR := Aside0.mk hR
    clear c0' hR
    go_wp2
    go_ret3
    rw [HR.out]
    exact ⟨none, 0, rfl, Kd.C_nil _ _, by simp, below_drew (Below.refl _ _)⟩
end Go.Proofs.Ytlpagilpbdiniaa.Q
