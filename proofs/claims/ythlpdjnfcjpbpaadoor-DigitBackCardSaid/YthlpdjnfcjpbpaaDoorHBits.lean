/- The digits of a number, laid from the end of a block of 65 bytes. -/
import Derived.Test.YthlpdjnfcjpbpaaDoorHShowP
import Derived.Test.YthlpdjnfcjpbpaaDoorQStrconvIsPowerOfTwo
namespace Go.Proofs.YthlpdjnfcjpbpaaDoor.Q
open Go.RowKit Go.Proofs.YthlpdjnfcjpbpaaDoorW.PrintWords Go.Proofs.YthlpdjnfcjpbpaaDoorW.PrintLast Go.Proofs.YthlpdjnfcjpbpaaDoorW.PrintMore
theorem digits_idx (v : Int) (h : 0 ≤ v ∧ v < 36) : ∀ hh : v.toNat < (⟨#[48, 49, 50, 51, 52, 53, 54, 55, 56, 57, 97, 98, 99, 100, 101, 102, 103, 104, 105, 106, 107, 108, 109, 110, 111, 112, 113, 114, 115, 116, 117, 118, 119, 120, 121, 122]⟩ : ByteArray).size, (((⟨#[48, 49, 50, 51, 52, 53, 54, 55, 56, 57, 97, 98, 99, 100, 101, 102, 103, 104, 105, 106, 107, 108, 109, 110, 111, 112, 113, 114, 115, 116, 117, 118, 119, 120, 121, 122]⟩ : ByteArray)[v.toNat]'hh).toNat : Int) = chI v := fun hh => (bt_at (⟨#[48, 49, 50, 51, 52, 53, 54, 55, 56, 57, 97, 98, 99, 100, 101, 102, 103, 104, 105, 106, 107, 108, 109, 110, 111, 112, 113, 114, 115, 116, 117, 118, 119, 120, 121, 122]⟩ : ByteArray) v hh).trans (digits_ch v h)
theorem drop_set_at (L : List Int) (j : Nat) (x : Int) (h : j < L.length) : (L.set j x).drop j = x :: L.drop (j + 1) := by
  rw [List.drop_eq_getElem_cons (by rw [List.length_set]; exact h), List.getElem_set_self, List.drop_set_of_lt (by omega)]
theorem slice_arr (gb : Nat) (j : Int) (h : 0 ≤ j ∧ j < 65) (W : World) : (Instr.sliceAt 76 (.pointer (some ⟨gb, 0, none⟩)) (some (.int .i64 j)) none none).run Tryd.prog W = .ok (.slice (some ⟨gb, j.toNat, none⟩) (65 - j.toNat) (65 - j.toNat)) W := by
  have hal : Tryd.prog.arrayLen 76 = 65 := by kernel_rfl
  have hel : Tryd.prog.elem 76 = 5 := by kernel_rfl
  rw [run_sliceAt_array_l W 76 ⟨gb, 0, none⟩ (by kernel_rfl) .i64 j h.1 (by rw [hal]; omega), hal, hel, run_size (sz := 1) (by kernel_rfl) W]
  show Result.ok (slicedAt ⟨gb, 0, none⟩ j.toNat 65 65 1) W = _
  unfold slicedAt
  rw [if_neg (by omega), Nat.mul_one, add_plain]
def Z65 : List Value := (List.replicate 65 (0 : Int)).map (Value.int .u8)
theorem and_mask (u : Int) (s : Nat) (h0 : 0 ≤ u) (h1 : u < 18446744073709551616 ∧ s < 8) : bits .and .u64 u (2 ^ s - 1 : Nat) = u % (2 ^ s : Nat) := by
  obtain ⟨n, rfl⟩ := Int.eq_ofNat_of_zero_le h0
  have h2 : 2 ^ s ≤ 2 ^ 8 := Nat.pow_le_pow_right (by decide) (by omega)
  rw [bits_and_u64_nat n (2 ^ s - 1) (by omega) (by omega), Nat.and_two_pow_sub_one_eq_mod]
  rfl
set_option maxRecDepth 100000 in
theorem tz64_2 (w : World) (ht : Tabs w) : Calls Tryd.prog 55 #[.int .u64 2] w fun e w' => e = .returned (.int .i64 1) ∧ w' = w := by
  have hc : w.cell? ⟨3, 1, none⟩ = some (.int .u8 1) := ht.at_bits_deBruijn64tab 1 (by decide)
  have e1 : IntKind.u64.wrap (bits .and .u64 2 (IntKind.u64.wrap (-2)) * 285870213051353865) / 288230376151711744 = 1 := by kernel_rfl
  clear ht
  go_enter Tryd.func55, Tryd.ntmps55
  go_wp2
  go_ret
  exact ⟨rfl, rfl⟩
set_option maxRecDepth 100000 in
theorem tz_2 (w : World) (ht : Tabs w) : Calls Tryd.prog 51 #[.int .u64 2] w fun e w' => e = .returned (.int .i64 1) ∧ Below w.heap.size w w' := by
  have HT := Aside0.mk ht
  clear ht
  go_enter Tryd.func51, Tryd.ntmps51
  go_wp2_with (first
    | (go_at_call 55; refine (tz64_2 _ HT.out).mono ?_; rintro e w1 ⟨rfl, rfl⟩))
  go_ret
  exact ⟨rfl, Below.refl _ _⟩
set_option maxRecDepth 100000 in
theorem tz64_4 (w : World) (ht : Tabs w) : Calls Tryd.prog 55 #[.int .u64 4] w fun e w' => e = .returned (.int .i64 2) ∧ w' = w := by
  have hc : w.cell? ⟨3, 3, none⟩ = some (.int .u8 2) := ht.at_bits_deBruijn64tab 3 (by decide)
  have e1 : IntKind.u64.wrap (bits .and .u64 4 (IntKind.u64.wrap (-4)) * 285870213051353865) / 288230376151711744 = 3 := by kernel_rfl
  clear ht
  go_enter Tryd.func55, Tryd.ntmps55
  go_wp2
  go_ret
  exact ⟨rfl, rfl⟩
set_option maxRecDepth 100000 in
theorem tz_4 (w : World) (ht : Tabs w) : Calls Tryd.prog 51 #[.int .u64 4] w fun e w' => e = .returned (.int .i64 2) ∧ Below w.heap.size w w' := by
  have HT := Aside0.mk ht
  clear ht
  go_enter Tryd.func51, Tryd.ntmps51
  go_wp2_with (first
    | (go_at_call 55; refine (tz64_4 _ HT.out).mono ?_; rintro e w1 ⟨rfl, rfl⟩))
  go_ret
  exact ⟨rfl, Below.refl _ _⟩
set_option maxRecDepth 100000 in
theorem tz64_8 (w : World) (ht : Tabs w) : Calls Tryd.prog 55 #[.int .u64 8] w fun e w' => e = .returned (.int .i64 3) ∧ w' = w := by
  have hc : w.cell? ⟨3, 7, none⟩ = some (.int .u8 3) := ht.at_bits_deBruijn64tab 7 (by decide)
  have e1 : IntKind.u64.wrap (bits .and .u64 8 (IntKind.u64.wrap (-8)) * 285870213051353865) / 288230376151711744 = 7 := by kernel_rfl
  clear ht
  go_enter Tryd.func55, Tryd.ntmps55
  go_wp2
  go_ret
  exact ⟨rfl, rfl⟩
set_option maxRecDepth 100000 in
theorem tz_8 (w : World) (ht : Tabs w) : Calls Tryd.prog 51 #[.int .u64 8] w fun e w' => e = .returned (.int .i64 3) ∧ Below w.heap.size w w' := by
  have HT := Aside0.mk ht
  clear ht
  go_enter Tryd.func51, Tryd.ntmps51
  go_wp2_with (first
    | (go_at_call 55; refine (tz64_8 _ HT.out).mono ?_; rintro e w1 ⟨rfl, rfl⟩))
  go_ret
  exact ⟨rfl, Below.refl _ _⟩
set_option maxRecDepth 100000 in
theorem tz64_16 (w : World) (ht : Tabs w) : Calls Tryd.prog 55 #[.int .u64 16] w fun e w' => e = .returned (.int .i64 4) ∧ w' = w := by
  have hc : w.cell? ⟨3, 15, none⟩ = some (.int .u8 4) := ht.at_bits_deBruijn64tab 15 (by decide)
  have e1 : IntKind.u64.wrap (bits .and .u64 16 (IntKind.u64.wrap (-16)) * 285870213051353865) / 288230376151711744 = 15 := by kernel_rfl
  clear ht
  go_enter Tryd.func55, Tryd.ntmps55
  go_wp2
  go_ret
  exact ⟨rfl, rfl⟩
set_option maxRecDepth 100000 in
theorem tz_16 (w : World) (ht : Tabs w) : Calls Tryd.prog 51 #[.int .u64 16] w fun e w' => e = .returned (.int .i64 4) ∧ Below w.heap.size w w' := by
  have HT := Aside0.mk ht
  clear ht
  go_enter Tryd.func51, Tryd.ntmps51
  go_wp2_with (first
    | (go_at_call 55; refine (tz64_16 _ HT.out).mono ?_; rintro e w1 ⟨rfl, rfl⟩))
  go_ret
  exact ⟨rfl, Below.refl _ _⟩
set_option maxRecDepth 100000 in
theorem tz64_32 (w : World) (ht : Tabs w) : Calls Tryd.prog 55 #[.int .u64 32] w fun e w' => e = .returned (.int .i64 5) ∧ w' = w := by
  have hc : w.cell? ⟨3, 31, none⟩ = some (.int .u8 5) := ht.at_bits_deBruijn64tab 31 (by decide)
  have e1 : IntKind.u64.wrap (bits .and .u64 32 (IntKind.u64.wrap (-32)) * 285870213051353865) / 288230376151711744 = 31 := by kernel_rfl
  clear ht
  go_enter Tryd.func55, Tryd.ntmps55
  go_wp2
  go_ret
  exact ⟨rfl, rfl⟩
set_option maxRecDepth 100000 in
theorem tz_32 (w : World) (ht : Tabs w) : Calls Tryd.prog 51 #[.int .u64 32] w fun e w' => e = .returned (.int .i64 5) ∧ Below w.heap.size w w' := by
  have HT := Aside0.mk ht
  clear ht
  go_enter Tryd.func51, Tryd.ntmps51
  go_wp2_with (first
    | (go_at_call 55; refine (tz64_32 _ HT.out).mono ?_; rintro e w1 ⟨rfl, rfl⟩))
  go_ret
  exact ⟨rfl, Below.refl _ _⟩
set_option maxHeartbeats 4000000 in
set_option maxRecDepth 100000 in
theorem formatBits_plain (b u0 : Int) (hb : 2 ≤ b ∧ b ≤ 36 ∧ b ≠ 10) (hp : strconv_isPowerOfTwo.f b = some false) (hu : 0 ≤ u0 ∧ u0 < 4294967296) (w : World) :
    Calls Tryd.prog 42 #[.slice none 0 0, .int .u64 u0, .int .i64 b, .bool false, .bool false] w fun e w' => e = .returned (.tuple #[.slice none 0 0, .string (strOfNums (showI b u0))]) ∧ Below w.heap.size w w' := by
  have HP := Aside0.mk hp
  have HBb := Aside0.mk hb
  have HU := Aside0.mk hu
  have HB := Aside0.mk (Below.refl w.heap.size w)
  have d1 : decide (b < 2) = false := decide_eq_false (by omega)
  have d2 : (b == 10) = false := beq_eq_false_iff_ne.2 hb.2.2
  have d3 : decide (36 < b) = false := decide_eq_false (by omega)
  have ew : IntKind.u64.wrap b = b := wrap_u64_id b (by omega) (by omega)
  obtain ⟨Z, hZ⟩ : ∃ Z, Z = Z65 := ⟨_, rfl⟩
  have HZ := Aside0.mk hZ
  clear hp hb hu hZ
  go_enter Tryd.func42, Tryd.ntmps42
  go_wp2_with (first
    | ((with_reducible refine gate_dst (N := 12) rfl ?_); refine box_event ?hg (N := 12) ?hd (cs := Z.toArray) (t := 76) ?hr ?_; (case hd => rfl); (case hg => rfl); (case hr => have hZ2 := HZ.out; first | (go_simp; done) | (go_simp; rfl)); intro gb hg w2 hbox hb; have BK := Aside0.mk hbox; have GB := Aside0.mk (show w.heap.size ≤ gb from hg ▸ Nat.le_refl _); have HB1 := Aside0.mk hb; clear hbox hb hg HB)
    | (go_at_call 50; refine (strconv_isPowerOfTwo.calls _ _ _ HP.out).mono ?_; rintro e w3 ⟨rfl, hd⟩; have HB2 := Aside0.mk (below_step HB1.out hd.below); have BK2 := Aside0.mk (blk_below BK.out hd.below); clear hd BK HB1))
  have HR := Aside0.mk (show Kd.R (Kd.int .u8) 76 _ w.heap.size (fun _ => True) (.slice (some ⟨gb, 0, none⟩) 65 65) (List.replicate 65 (0 : Int)) from by
    have h := BK2.out
    rw [HZ.out] at h
    exact R_arr (L := List.replicate 65 (0 : Int)) h GB.out (by decide))
  obtain ⟨n0, hn0⟩ : ∃ n0, n0 = (showL b.toNat u0.toNat).length := ⟨_, rfl⟩
  have hn1 : 1 ≤ n0 ∧ n0 ≤ 32 := by
    have h1 := HU.out
    have h2 := HBb.out
    rw [hn0]
    exact ⟨showL_pos _ _, showL_len b.toNat (by omega) 31 u0.toNat (by omega)⟩
  have HN0 := Aside0.mk hn0
  clear BK2 hn0
  go_loopg [1, 13] n0 (fun kq v1 v13 w' => ∃ (u i : Int) (L : List Int), v1 = .int .u64 u ∧ v13 = .int .i64 i ∧ Aside0 (0 ≤ u ∧ u < 4294967296 ∧ (showL b.toNat u.toNat).length = kq ∧ kq ≤ n0 ∧ i = 65 - (n0 - kq) ∧ L.length = 65) ∧ Aside0 (showI b u ++ L.drop i.toNat = showI b u0) ∧ Aside0 (Kd.R (Kd.int .u8) 76 w' w.heap.size (fun _ => True) (.slice (some ⟨gb, 0, none⟩) 65 65) L) ∧ Aside0 (Below w.heap.size w w'))
  case atStart =>
    have h1 := HU.out
    exact ⟨u0, 65, _, rfl, rfl, ⟨h1.1, h1.2, HN0.out.symm, Nat.le_refl _, by omega, by simp⟩, ⟨by simp⟩, HR, HB2⟩
  case round =>
    clear HR HB2
    obtain ⟨u, i, L, rfl, rfl, HI, HS, HR, HB2⟩ := hrel
    have h7 := HBb.out
    by_cases hlt : b ≤ u
    · have d4 : decide (b ≤ u) = true := decide_eq_true hlt
      obtain ⟨h1, h2, h3, h4, h5, h6⟩ := HI.out
      cases gk with
      | zero => exact absurd h3 (by have := showL_pos b.toNat u.toNat; omega)
      | succ k1 =>
      cases k1 with
      | zero => exact absurd (showL_one (by omega) h3) (by omega)
      | succ k2 =>
      obtain ⟨h8, h9⟩ := showL_more (show 2 ≤ b.toNat by omega) h3
      have hbig := showI_big h7.1 h7.2.1 hlt
      have hdm := Int.mul_ediv_add_emod u b
      have hm0 := Int.emod_nonneg u (show b ≠ 0 by omega)
      have hm1 := Int.emod_lt_of_pos u (show 0 < b by omega)
      have hq0 : 0 ≤ u / b := Int.ediv_nonneg h1 (by omega)
      have hq1 : u / b ≤ u := Int.ediv_le_self _ h1
      have htd : u.tdiv b = u / b := Int.tdiv_eq_ediv_of_nonneg h1
      have hqn : (u / b).toNat = u.toNat / b.toNat := by
        obtain ⟨n, rfl⟩ := Int.eq_ofNat_of_zero_le h1
        obtain ⟨m, rfl⟩ := Int.eq_ofNat_of_zero_le (show 0 ≤ b by omega)
        rfl
      rw [← hqn] at h9
      obtain ⟨q, hq⟩ : ∃ q : Int, q = u / b := ⟨_, rfl⟩
      obtain ⟨r, hr⟩ : ∃ r : Int, r = u % b := ⟨_, rfl⟩
      rw [← hq] at hbig hdm hq0 hq1 htd h9
      rw [← hr] at hbig hdm hm0 hm1
      obtain ⟨p, hp⟩ : ∃ p : Int, p = q * b := ⟨_, rfl⟩
      rw [Int.mul_comm, ← hp] at hdm
      obtain ⟨j, hj⟩ : ∃ j : Int, j = i - 1 := ⟨_, rfl⟩
      have hj2 : 0 ≤ j ∧ j < 65 := by omega
      have e1 : wrap64 (i - 1) = j := by unfold wrap64; omega
      have e2 : IntKind.u64.wrap (u.tdiv b) = q := by rw [htd]; exact wrap_u64_id q (by omega) (by omega)
      have e3 : IntKind.u64.wrap (q * b) = p := by rw [← hp]; exact wrap_u64_id p (by omega) (by omega)
      have e4 : IntKind.u64.wrap (u - p) = r := by rw [wrap_u64_id _ (by omega) (by omega)]; omega
      obtain ⟨hx, hf⟩ := Kd.R_celln 0 HR.out j (by omega) (by omega)
      have hdg := digits_idx r (by omega)
      have p1 : (0 ≤ r) = True := eq_true hm0
      have p2 : (r < 36) = True := eq_true (by omega)
      have p3 : (0 ≤ j) = True := eq_true hj2.1
      have p4 : (j < 65) = True := eq_true hj2.2
      have p5 : (b = 0) = False := eq_false (by omega)
      have HJ := Aside0.mk hj
      have HJ2 := Aside0.mk hj2
      have HBIG := Aside0.mk hbig
      have HQ := Aside0.mk (show 0 ≤ q ∧ q < 4294967296 from ⟨hq0, by omega⟩)
      have H9 := Aside0.mk h9
      have HP2 := Aside0.mk (Kd.R_putn HR.out j (chI r))
      clear hj hj2 hlt h1 h2 h3 h4 h5 h6 h7 h8 h9 hbig hdm hm0 hm1 hq0 hq1 htd hqn hq hr hp
      go_wp2
      go_roundg (k2 + 1)
      case measure => omega
      case rel =>
        have hi := HI.out
        have hj := HJ.out
        have hj2 := HJ2.out
        refine ⟨q, j, L.set j.toNat (chI r), rfl, rfl, ⟨HQ.out.1, HQ.out.2, H9.out, by omega, by omega, by rw [List.length_set]; exact hi.2.2.2.2.2⟩, ⟨?_⟩, ⟨HP2.out⟩, ⟨below_set HB2.out GB.out⟩⟩
        rw [drop_set_at L j.toNat (chI r) (by omega), show j.toNat + 1 = i.toNat by omega, ← HS.out, HBIG.out, List.append_assoc]
        rfl
    · have d4 : decide (b ≤ u) = false := decide_eq_false hlt
      obtain ⟨j, hj⟩ : ∃ j : Int, j = i - 1 := ⟨_, rfl⟩
      have hj2 : 0 ≤ j ∧ j < 65 := by have := HI.out; omega
      have e1 : wrap64 (i - 1) = j := by unfold wrap64; omega
      obtain ⟨hx, hf⟩ := Kd.R_celln 0 HR.out j (by omega) (by omega)
      have hu1 := HI.out.1
      have hdg := digits_idx u (by omega)
      have p1 : (0 ≤ u) = True := eq_true hu1
      have p2 : (u < 36) = True := eq_true (by omega)
      have p3 : (0 ≤ j) = True := eq_true hj2.1
      have p4 : (j < 65) = True := eq_true hj2.2
      have HJ := Aside0.mk hj
      have HJ2 := Aside0.mk hj2
      have HLT := Aside0.mk hlt
      clear hj hj2 hlt hu1 h7
      have HP2 := Aside0.mk (Kd.R_putn HR.out j (chI u))
      have hsl : ∀ W, (Instr.sliceAt 76 (.pointer (some ⟨gb, 0, none⟩)) (some (.int .i64 j)) none none).run Tryd.prog W = .ok (.slice (some ⟨gb, j.toNat, none⟩) (65 - j.toNat) (65 - j.toNat)) W := fun W => slice_arr gb j HJ2.out W
      have hcv : (convert 52 9 (.slice (some ⟨gb, j.toNat, none⟩) (65 - j.toNat) (65 - j.toNat))).run Tryd.prog (wr.setCell ⟨gb, j.toNat, none⟩ (.int .u8 (chI u))) = .ok (.string (strOfNums (showI b u0))) (wr.setCell ⟨gb, j.toNat, none⟩ (.int .u8 (chI u))) := by
        have hi := HI.out
        have hj := HJ.out
        have hj2 := HJ2.out
        have h7 := HBb.out
        have h := C_cut (Kd.R_reads' HP2.out).2.2 (c := 65) (by rw [List.length_set]; omega) j.toNat (65 - j.toNat) (by rw [List.length_set]; omega)
        rw [cutAt_own (show j.toNat < 65 by omega)] at h
        have h' : Kd.C (Kd.int .u8) (wr.setCell ⟨gb, j.toNat, none⟩ (.int .u8 (chI u))) (some ⟨gb, j.toNat * 1, none⟩) (65 - j.toNat) (((L.set j.toNat (chI u)).drop j.toNat).take (65 - j.toNat)) := h
        rw [Nat.mul_one] at h'
        have h2 := Kd.C_string (src := 52) (dst := 9) (c := 65 - j.toNat) Tryd.underlying52 Tryd.underlying5 Tryd.underlying9 h'
        rw [h2, List.take_of_length_le (by rw [List.length_drop, List.length_set]; omega), drop_set_at L j.toNat (chI u) (by omega), show j.toNat + 1 = i.toNat by omega, ← HS.out, showI_small hi.1 (Int.lt_of_not_ge HLT.out) h7.2.1]
        rfl
      go_wp2
      go_ret2
      exact ⟨rfl, below_set HB2.out GB.out⟩
set_option maxHeartbeats 4000000 in
set_option maxRecDepth 100000 in
theorem formatBits_plain_neg (b u0 : Int) (hb : 2 ≤ b ∧ b ≤ 36 ∧ b ≠ 10) (hp : strconv_isPowerOfTwo.f b = some false) (hu : 0 ≤ u0 ∧ u0 < 4294967296) (U : Int) (hU : IntKind.u64.wrap (-U) = u0) (w : World) :
    Calls Tryd.prog 42 #[.slice none 0 0, .int .u64 U, .int .i64 b, .bool true, .bool false] w fun e w' => e = .returned (.tuple #[.slice none 0 0, .string (strOfNums (45 :: showI b u0))]) ∧ Below w.heap.size w w' := by
  have HP := Aside0.mk hp
  have HBb := Aside0.mk hb
  have HU := Aside0.mk hu
  have HB := Aside0.mk (Below.refl w.heap.size w)
  have d1 : decide (b < 2) = false := decide_eq_false (by omega)
  have d2 : (b == 10) = false := beq_eq_false_iff_ne.2 hb.2.2
  have d3 : decide (36 < b) = false := decide_eq_false (by omega)
  have ew : IntKind.u64.wrap b = b := wrap_u64_id b (by omega) (by omega)
  obtain ⟨Z, hZ⟩ : ∃ Z, Z = Z65 := ⟨_, rfl⟩
  have HZ := Aside0.mk hZ
  clear hp hb hu hZ
  go_enter Tryd.func42, Tryd.ntmps42
  go_wp2_with (first
    | ((with_reducible refine gate_dst (N := 12) rfl ?_); refine box_event ?hg (N := 12) ?hd (cs := Z.toArray) (t := 76) ?hr ?_; (case hd => rfl); (case hg => rfl); (case hr => have hZ2 := HZ.out; first | (go_simp; done) | (go_simp; rfl)); intro gb hg w2 hbox hb; have BK := Aside0.mk hbox; have GB := Aside0.mk (show w.heap.size ≤ gb from hg ▸ Nat.le_refl _); have HB1 := Aside0.mk hb; clear hbox hb hg HB)
    | (go_at_call 50; refine (strconv_isPowerOfTwo.calls _ _ _ HP.out).mono ?_; rintro e w3 ⟨rfl, hd⟩; have HB2 := Aside0.mk (below_step HB1.out hd.below); have BK2 := Aside0.mk (blk_below BK.out hd.below); clear hd BK HB1))
  have HR := Aside0.mk (show Kd.R (Kd.int .u8) 76 _ w.heap.size (fun _ => True) (.slice (some ⟨gb, 0, none⟩) 65 65) (List.replicate 65 (0 : Int)) from by
    have h := BK2.out
    rw [HZ.out] at h
    exact R_arr (L := List.replicate 65 (0 : Int)) h GB.out (by decide))
  obtain ⟨n0, hn0⟩ : ∃ n0, n0 = (showL b.toNat u0.toNat).length := ⟨_, rfl⟩
  have hn1 : 1 ≤ n0 ∧ n0 ≤ 32 := by
    have h1 := HU.out
    have h2 := HBb.out
    rw [hn0]
    exact ⟨showL_pos _ _, showL_len b.toNat (by omega) 31 u0.toNat (by omega)⟩
  have HN0 := Aside0.mk hn0
  clear BK2 hn0
  go_loopg [1, 13] n0 (fun kq v1 v13 w' => ∃ (u i : Int) (L : List Int), v1 = .int .u64 u ∧ v13 = .int .i64 i ∧ Aside0 (0 ≤ u ∧ u < 4294967296 ∧ (showL b.toNat u.toNat).length = kq ∧ kq ≤ n0 ∧ i = 65 - (n0 - kq) ∧ L.length = 65) ∧ Aside0 (showI b u ++ L.drop i.toNat = showI b u0) ∧ Aside0 (Kd.R (Kd.int .u8) 76 w' w.heap.size (fun _ => True) (.slice (some ⟨gb, 0, none⟩) 65 65) L) ∧ Aside0 (Below w.heap.size w w'))
  case atStart =>
    have h1 := HU.out
    exact ⟨u0, 65, _, rfl, rfl, ⟨h1.1, h1.2, HN0.out.symm, Nat.le_refl _, by omega, by simp⟩, ⟨by simp⟩, HR, HB2⟩
  case round =>
    clear HR HB2
    obtain ⟨u, i, L, rfl, rfl, HI, HS, HR, HB2⟩ := hrel
    have h7 := HBb.out
    by_cases hlt : b ≤ u
    · have d4 : decide (b ≤ u) = true := decide_eq_true hlt
      obtain ⟨h1, h2, h3, h4, h5, h6⟩ := HI.out
      cases gk with
      | zero => exact absurd h3 (by have := showL_pos b.toNat u.toNat; omega)
      | succ k1 =>
      cases k1 with
      | zero => exact absurd (showL_one (by omega) h3) (by omega)
      | succ k2 =>
      obtain ⟨h8, h9⟩ := showL_more (show 2 ≤ b.toNat by omega) h3
      have hbig := showI_big h7.1 h7.2.1 hlt
      have hdm := Int.mul_ediv_add_emod u b
      have hm0 := Int.emod_nonneg u (show b ≠ 0 by omega)
      have hm1 := Int.emod_lt_of_pos u (show 0 < b by omega)
      have hq0 : 0 ≤ u / b := Int.ediv_nonneg h1 (by omega)
      have hq1 : u / b ≤ u := Int.ediv_le_self _ h1
      have htd : u.tdiv b = u / b := Int.tdiv_eq_ediv_of_nonneg h1
      have hqn : (u / b).toNat = u.toNat / b.toNat := by
        obtain ⟨n, rfl⟩ := Int.eq_ofNat_of_zero_le h1
        obtain ⟨m, rfl⟩ := Int.eq_ofNat_of_zero_le (show 0 ≤ b by omega)
        rfl
      rw [← hqn] at h9
      obtain ⟨q, hq⟩ : ∃ q : Int, q = u / b := ⟨_, rfl⟩
      obtain ⟨r, hr⟩ : ∃ r : Int, r = u % b := ⟨_, rfl⟩
      rw [← hq] at hbig hdm hq0 hq1 htd h9
      rw [← hr] at hbig hdm hm0 hm1
      obtain ⟨p, hp⟩ : ∃ p : Int, p = q * b := ⟨_, rfl⟩
      rw [Int.mul_comm, ← hp] at hdm
      obtain ⟨j, hj⟩ : ∃ j : Int, j = i - 1 := ⟨_, rfl⟩
      have hj2 : 0 ≤ j ∧ j < 65 := by omega
      have e1 : wrap64 (i - 1) = j := by unfold wrap64; omega
      have e2 : IntKind.u64.wrap (u.tdiv b) = q := by rw [htd]; exact wrap_u64_id q (by omega) (by omega)
      have e3 : IntKind.u64.wrap (q * b) = p := by rw [← hp]; exact wrap_u64_id p (by omega) (by omega)
      have e4 : IntKind.u64.wrap (u - p) = r := by rw [wrap_u64_id _ (by omega) (by omega)]; omega
      obtain ⟨hx, hf⟩ := Kd.R_celln 0 HR.out j (by omega) (by omega)
      have hdg := digits_idx r (by omega)
      have p1 : (0 ≤ r) = True := eq_true hm0
      have p2 : (r < 36) = True := eq_true (by omega)
      have p3 : (0 ≤ j) = True := eq_true hj2.1
      have p4 : (j < 65) = True := eq_true hj2.2
      have p5 : (b = 0) = False := eq_false (by omega)
      have HJ := Aside0.mk hj
      have HJ2 := Aside0.mk hj2
      have HBIG := Aside0.mk hbig
      have HQ := Aside0.mk (show 0 ≤ q ∧ q < 4294967296 from ⟨hq0, by omega⟩)
      have H9 := Aside0.mk h9
      have HP2 := Aside0.mk (Kd.R_putn HR.out j (chI r))
      clear hj hj2 hlt h1 h2 h3 h4 h5 h6 h7 h8 h9 hbig hdm hm0 hm1 hq0 hq1 htd hqn hq hr hp
      go_wp2
      go_roundg (k2 + 1)
      case measure => omega
      case rel =>
        have hi := HI.out
        have hj := HJ.out
        have hj2 := HJ2.out
        refine ⟨q, j, L.set j.toNat (chI r), rfl, rfl, ⟨HQ.out.1, HQ.out.2, H9.out, by omega, by omega, by rw [List.length_set]; exact hi.2.2.2.2.2⟩, ⟨?_⟩, ⟨HP2.out⟩, ⟨below_set HB2.out GB.out⟩⟩
        rw [drop_set_at L j.toNat (chI r) (by omega), show j.toNat + 1 = i.toNat by omega, ← HS.out, HBIG.out, List.append_assoc]
        rfl
    · have d4 : decide (b ≤ u) = false := decide_eq_false hlt
      obtain ⟨j, hj⟩ : ∃ j : Int, j = i - 1 := ⟨_, rfl⟩
      have hj2 : 0 ≤ j ∧ j < 65 := by have := HI.out; omega
      have e1 : wrap64 (i - 1) = j := by unfold wrap64; omega
      obtain ⟨hx, hf⟩ := Kd.R_celln 0 HR.out j (by omega) (by omega)
      have hu1 := HI.out.1
      have hdg := digits_idx u (by omega)
      have p1 : (0 ≤ u) = True := eq_true hu1
      have p2 : (u < 36) = True := eq_true (by omega)
      have p3 : (0 ≤ j) = True := eq_true hj2.1
      have p4 : (j < 65) = True := eq_true hj2.2
      have HJ := Aside0.mk hj
      have HJ2 := Aside0.mk hj2
      have HLT := Aside0.mk hlt
      clear hj hj2 hlt hu1 h7
      have HP2 := Aside0.mk (Kd.R_putn HR.out j (chI u))
      obtain ⟨j3, hj3⟩ : ∃ j3 : Int, j3 = j - 1 := ⟨_, rfl⟩
      have hj4 : 0 ≤ j3 ∧ j3 < 65 := by have := HI.out; have := HJ.out; omega
      have e5 : wrap64 (j - 1) = j3 := by have := HJ2.out; unfold wrap64; omega
      obtain ⟨hx3, hf3⟩ := Kd.R_celln 0 HP2.out j3 (by omega) (by omega)
      have HP3 := Aside0.mk (Kd.R_putn HP2.out j3 45)
      have p5 : (0 ≤ j3) = True := eq_true hj4.1
      have p6 : (j3 < 65) = True := eq_true hj4.2
      have HJ3 := Aside0.mk hj3
      have HJ4 := Aside0.mk hj4
      clear hj3 hj4
      have hsl : ∀ W, (Instr.sliceAt 76 (.pointer (some ⟨gb, 0, none⟩)) (some (.int .i64 j3)) none none).run Tryd.prog W = .ok (.slice (some ⟨gb, j3.toNat, none⟩) (65 - j3.toNat) (65 - j3.toNat)) W := fun W => slice_arr gb j3 HJ4.out W
      have hcv : (convert 52 9 (.slice (some ⟨gb, j3.toNat, none⟩) (65 - j3.toNat) (65 - j3.toNat))).run Tryd.prog ((wr.setCell ⟨gb, j.toNat, none⟩ (.int .u8 (chI u))).setCell ⟨gb, j3.toNat, none⟩ (.int .u8 45)) = .ok (.string (strOfNums (45 :: showI b u0))) ((wr.setCell ⟨gb, j.toNat, none⟩ (.int .u8 (chI u))).setCell ⟨gb, j3.toNat, none⟩ (.int .u8 45)) := by
        have hi := HI.out
        have hj := HJ.out
        have hj2 := HJ2.out
        have hj3 := HJ3.out
        have hj4 := HJ4.out
        have h7 := HBb.out
        have h := C_cut (Kd.R_reads' HP3.out).2.2 (c := 65) (by rw [List.length_set, List.length_set]; omega) j3.toNat (65 - j3.toNat) (by rw [List.length_set, List.length_set]; omega)
        rw [cutAt_own (show j3.toNat < 65 by omega)] at h
        have h' : Kd.C (Kd.int .u8) ((wr.setCell ⟨gb, j.toNat, none⟩ (.int .u8 (chI u))).setCell ⟨gb, j3.toNat, none⟩ (.int .u8 45)) (some ⟨gb, j3.toNat * 1, none⟩) (65 - j3.toNat) ((((L.set j.toNat (chI u)).set j3.toNat 45).drop j3.toNat).take (65 - j3.toNat)) := h
        rw [Nat.mul_one] at h'
        have h2 := Kd.C_string (src := 52) (dst := 9) (c := 65 - j3.toNat) Tryd.underlying52 Tryd.underlying5 Tryd.underlying9 h'
        rw [h2, List.take_of_length_le (by rw [List.length_drop, List.length_set, List.length_set]; omega), drop_set_at _ j3.toNat 45 (by rw [List.length_set]; omega), show j3.toNat + 1 = j.toNat by omega, drop_set_at L j.toNat (chI u) (by omega), show j.toNat + 1 = i.toNat by omega, ← HS.out, showI_small hi.1 (Int.lt_of_not_ge HLT.out) h7.2.1]
        rfl
      go_wp2
      go_ret2
      exact ⟨rfl, below_set (below_set HB2.out GB.out) GB.out⟩
set_option maxHeartbeats 4000000 in
set_option maxRecDepth 100000 in
theorem formatBits_p2 (u0 : Int) (hu : 0 ≤ u0 ∧ u0 < 4294967296) (w : World) (ht : Tabs w) :
    Calls Tryd.prog 42 #[.slice none 0 0, .int .u64 u0, .int .i64 2, .bool false, .bool false] w fun e w' => e = .returned (.tuple #[.slice none 0 0, .string (strOfNums (showI 2 u0))]) ∧ Below w.heap.size w w' := by
  have HP := Aside0.mk (show strconv_isPowerOfTwo.f 2 = some true by kernel_rfl)
  have HBb := Aside0.mk (show (2 : Int) ≤ 2 ∧ (2 : Int) ≤ 36 ∧ (2 : Int) ≠ 10 by decide)
  have HT := Aside0.mk ht
  have hb := HBb.out
  have HU := Aside0.mk hu
  have HB := Aside0.mk (Below.refl w.heap.size w)
  obtain ⟨Z, hZ⟩ : ∃ Z, Z = Z65 := ⟨_, rfl⟩
  have HZ := Aside0.mk hZ
  clear ht hb hu hZ
  go_enter Tryd.func42, Tryd.ntmps42
  go_wp2_with (first
    | ((with_reducible refine gate_dst (N := 12) rfl ?_); refine box_event ?hg (N := 12) ?hd (cs := Z.toArray) (t := 76) ?hr ?_; (case hd => rfl); (case hg => rfl); (case hr => have hZ2 := HZ.out; first | (go_simp; done) | (go_simp; rfl)); intro gb hg w2 hbox hb; have BK := Aside0.mk hbox; have GB := Aside0.mk (show w.heap.size ≤ gb from hg ▸ Nat.le_refl _); have HB1 := Aside0.mk hb; clear hbox hb hg HB)
    | (go_at_call 50; refine (strconv_isPowerOfTwo.calls _ _ _ HP.out).mono ?_; rintro e w3 ⟨rfl, hd⟩; have HB3 := Aside0.mk (below_step HB1.out hd.below); have BK3 := Aside0.mk (blk_below BK.out hd.below); clear hd BK HB1)
    | (go_at_call 51; refine (tz_2 _ (HT.out.below HB3.out)).mono ?_; rintro e w4 ⟨rfl, hd⟩; have HB2 := Aside0.mk (below_step HB3.out hd); have BK2 := Aside0.mk (blk_below BK3.out hd); clear hd BK3 HB3))
  have HR := Aside0.mk (show Kd.R (Kd.int .u8) 76 _ w.heap.size (fun _ => True) (.slice (some ⟨gb, 0, none⟩) 65 65) (List.replicate 65 (0 : Int)) from by
    have h := BK2.out
    rw [HZ.out] at h
    exact R_arr (L := List.replicate 65 (0 : Int)) h GB.out (by decide))
  obtain ⟨n0, hn0⟩ : ∃ n0, n0 = (showL (2 : Int).toNat u0.toNat).length := ⟨_, rfl⟩
  have hn1 : 1 ≤ n0 ∧ n0 ≤ 32 := by
    have h1 := HU.out
    have h2 := HBb.out
    rw [hn0]
    exact ⟨showL_pos _ _, showL_len (2 : Int).toNat (by omega) 31 u0.toNat (by omega)⟩
  have HN0 := Aside0.mk hn0
  clear BK2 hn0
  go_loopg [1, 13] n0 (fun kq v1 v13 w' => ∃ (u i : Int) (L : List Int), v1 = .int .u64 u ∧ v13 = .int .i64 i ∧ Aside0 (0 ≤ u ∧ u < 4294967296 ∧ (showL (2 : Int).toNat u.toNat).length = kq ∧ kq ≤ n0 ∧ i = 65 - (n0 - kq) ∧ L.length = 65) ∧ Aside0 (showI 2 u ++ L.drop i.toNat = showI 2 u0) ∧ Aside0 (Kd.R (Kd.int .u8) 76 w' w.heap.size (fun _ => True) (.slice (some ⟨gb, 0, none⟩) 65 65) L) ∧ Aside0 (Below w.heap.size w w'))
  case atStart =>
    have h1 := HU.out
    exact ⟨u0, 65, _, rfl, rfl, ⟨h1.1, h1.2, HN0.out.symm, Nat.le_refl _, by omega, by simp⟩, ⟨by simp⟩, HR, HB2⟩
  case round =>
    clear HR HB2
    obtain ⟨u, i, L, rfl, rfl, HI, HS, HR, HB2⟩ := hrel
    have h7 := HBb.out
    by_cases hlt : 2 ≤ u
    · have d4 : decide (2 ≤ u) = true := decide_eq_true hlt
      obtain ⟨h1, h2, h3, h4, h5, h6⟩ := HI.out
      cases gk with
      | zero => exact absurd h3 (by have := showL_pos (2 : Int).toNat u.toNat; omega)
      | succ k1 =>
      cases k1 with
      | zero => exact absurd (showL_one (by omega) h3) (by omega)
      | succ k2 =>
      obtain ⟨h8, h9⟩ := showL_more (show 2 ≤ (2 : Int).toNat by omega) h3
      have hbig := showI_big h7.1 h7.2.1 hlt
      have hdm := Int.mul_ediv_add_emod u 2
      have hm0 := Int.emod_nonneg u (show (2 : Int) ≠ 0 by omega)
      have hm1 := Int.emod_lt_of_pos u (show (0 : Int) < 2 by omega)
      have hq0 : 0 ≤ u / 2 := Int.ediv_nonneg h1 (by omega)
      have hq1 : u / 2 ≤ u := Int.ediv_le_self _ h1
      have hqn : (u / 2).toNat = u.toNat / (2 : Int).toNat := by
        obtain ⟨n, rfl⟩ := Int.eq_ofNat_of_zero_le h1
        rfl
      rw [← hqn] at h9
      obtain ⟨q, hq⟩ : ∃ q : Int, q = u / 2 := ⟨_, rfl⟩
      obtain ⟨r, hr⟩ : ∃ r : Int, r = u % 2 := ⟨_, rfl⟩
      rw [← hq] at hbig hdm hq0 hq1 h9
      rw [← hr] at hbig hdm hm0 hm1
      obtain ⟨j, hj⟩ : ∃ j : Int, j = i - 1 := ⟨_, rfl⟩
      have hj2 : 0 ≤ j ∧ j < 65 := by omega
      have e1 : wrap64 (i - 1) = j := by unfold wrap64; omega
      have e2 : bits .and .u64 u 1 = r := by rw [hr]; exact and_mask u 1 h1 (by omega)
      have e3 : u / 2 = q := hq.symm
      obtain ⟨hx, hf⟩ := Kd.R_celln 0 HR.out j (by omega) (by omega)
      have hdg := digits_idx r (by omega)
      have p1 : (0 ≤ r) = True := eq_true hm0
      have p2 : (r < 36) = True := eq_true (by omega)
      have p3 : (0 ≤ j) = True := eq_true hj2.1
      have p4 : (j < 65) = True := eq_true hj2.2
      have HJ := Aside0.mk hj
      have HJ2 := Aside0.mk hj2
      have HBIG := Aside0.mk hbig
      have HQ := Aside0.mk (show 0 ≤ q ∧ q < 4294967296 from ⟨hq0, by omega⟩)
      have H9 := Aside0.mk h9
      have HP2 := Aside0.mk (Kd.R_putn HR.out j (chI r))
      clear hj hj2 hlt h1 h2 h3 h4 h5 h6 h7 h8 h9 hbig hdm hm0 hm1 hq0 hq1 hqn hq hr
      go_wp2
      go_roundg (k2 + 1)
      case measure => omega
      case rel =>
        have hi := HI.out
        have hj := HJ.out
        have hj2 := HJ2.out
        refine ⟨q, j, L.set j.toNat (chI r), rfl, rfl, ⟨HQ.out.1, HQ.out.2, H9.out, by omega, by omega, by rw [List.length_set]; exact hi.2.2.2.2.2⟩, ⟨?_⟩, ⟨HP2.out⟩, ⟨below_set HB2.out GB.out⟩⟩
        rw [drop_set_at L j.toNat (chI r) (by omega), show j.toNat + 1 = i.toNat by omega, ← HS.out, HBIG.out, List.append_assoc]
        rfl
    · have d4 : decide (2 ≤ u) = false := decide_eq_false hlt
      obtain ⟨j, hj⟩ : ∃ j : Int, j = i - 1 := ⟨_, rfl⟩
      have hj2 : 0 ≤ j ∧ j < 65 := by have := HI.out; omega
      have e1 : wrap64 (i - 1) = j := by unfold wrap64; omega
      obtain ⟨hx, hf⟩ := Kd.R_celln 0 HR.out j (by omega) (by omega)
      have hu1 := HI.out.1
      have hdg := digits_idx u (by omega)
      have p1 : (0 ≤ u) = True := eq_true hu1
      have p2 : (u < 36) = True := eq_true (by omega)
      have p3 : (0 ≤ j) = True := eq_true hj2.1
      have p4 : (j < 65) = True := eq_true hj2.2
      have HJ := Aside0.mk hj
      have HJ2 := Aside0.mk hj2
      have HLT := Aside0.mk hlt
      clear hj hj2 hlt hu1 h7
      have HP2 := Aside0.mk (Kd.R_putn HR.out j (chI u))
      have hsl : ∀ W, (Instr.sliceAt 76 (.pointer (some ⟨gb, 0, none⟩)) (some (.int .i64 j)) none none).run Tryd.prog W = .ok (.slice (some ⟨gb, j.toNat, none⟩) (65 - j.toNat) (65 - j.toNat)) W := fun W => slice_arr gb j HJ2.out W
      have hcv : (convert 52 9 (.slice (some ⟨gb, j.toNat, none⟩) (65 - j.toNat) (65 - j.toNat))).run Tryd.prog (wr.setCell ⟨gb, j.toNat, none⟩ (.int .u8 (chI u))) = .ok (.string (strOfNums (showI 2 u0))) (wr.setCell ⟨gb, j.toNat, none⟩ (.int .u8 (chI u))) := by
        have hi := HI.out
        have hj := HJ.out
        have hj2 := HJ2.out
        have h7 := HBb.out
        have h := C_cut (Kd.R_reads' HP2.out).2.2 (c := 65) (by rw [List.length_set]; omega) j.toNat (65 - j.toNat) (by rw [List.length_set]; omega)
        rw [cutAt_own (show j.toNat < 65 by omega)] at h
        have h' : Kd.C (Kd.int .u8) (wr.setCell ⟨gb, j.toNat, none⟩ (.int .u8 (chI u))) (some ⟨gb, j.toNat * 1, none⟩) (65 - j.toNat) (((L.set j.toNat (chI u)).drop j.toNat).take (65 - j.toNat)) := h
        rw [Nat.mul_one] at h'
        have h2 := Kd.C_string (src := 52) (dst := 9) (c := 65 - j.toNat) Tryd.underlying52 Tryd.underlying5 Tryd.underlying9 h'
        rw [h2, List.take_of_length_le (by rw [List.length_drop, List.length_set]; omega), drop_set_at L j.toNat (chI u) (by omega), show j.toNat + 1 = i.toNat by omega, ← HS.out, showI_small hi.1 (Int.lt_of_not_ge HLT.out) h7.2.1]
        rfl
      go_wp2
      go_ret2
      exact ⟨rfl, below_set HB2.out GB.out⟩
set_option maxHeartbeats 4000000 in
set_option maxRecDepth 100000 in
theorem formatBits_p2_neg (u0 : Int) (hu : 0 ≤ u0 ∧ u0 < 4294967296) (U : Int) (hU : IntKind.u64.wrap (-U) = u0) (w : World) (ht : Tabs w) :
    Calls Tryd.prog 42 #[.slice none 0 0, .int .u64 U, .int .i64 2, .bool true, .bool false] w fun e w' => e = .returned (.tuple #[.slice none 0 0, .string (strOfNums (45 :: showI 2 u0))]) ∧ Below w.heap.size w w' := by
  have HP := Aside0.mk (show strconv_isPowerOfTwo.f 2 = some true by kernel_rfl)
  have HBb := Aside0.mk (show (2 : Int) ≤ 2 ∧ (2 : Int) ≤ 36 ∧ (2 : Int) ≠ 10 by decide)
  have HT := Aside0.mk ht
  have hb := HBb.out
  have HU := Aside0.mk hu
  have HB := Aside0.mk (Below.refl w.heap.size w)
  obtain ⟨Z, hZ⟩ : ∃ Z, Z = Z65 := ⟨_, rfl⟩
  have HZ := Aside0.mk hZ
  clear ht hb hu hZ
  go_enter Tryd.func42, Tryd.ntmps42
  go_wp2_with (first
    | ((with_reducible refine gate_dst (N := 12) rfl ?_); refine box_event ?hg (N := 12) ?hd (cs := Z.toArray) (t := 76) ?hr ?_; (case hd => rfl); (case hg => rfl); (case hr => have hZ2 := HZ.out; first | (go_simp; done) | (go_simp; rfl)); intro gb hg w2 hbox hb; have BK := Aside0.mk hbox; have GB := Aside0.mk (show w.heap.size ≤ gb from hg ▸ Nat.le_refl _); have HB1 := Aside0.mk hb; clear hbox hb hg HB)
    | (go_at_call 50; refine (strconv_isPowerOfTwo.calls _ _ _ HP.out).mono ?_; rintro e w3 ⟨rfl, hd⟩; have HB3 := Aside0.mk (below_step HB1.out hd.below); have BK3 := Aside0.mk (blk_below BK.out hd.below); clear hd BK HB1)
    | (go_at_call 51; refine (tz_2 _ (HT.out.below HB3.out)).mono ?_; rintro e w4 ⟨rfl, hd⟩; have HB2 := Aside0.mk (below_step HB3.out hd); have BK2 := Aside0.mk (blk_below BK3.out hd); clear hd BK3 HB3))
  have HR := Aside0.mk (show Kd.R (Kd.int .u8) 76 _ w.heap.size (fun _ => True) (.slice (some ⟨gb, 0, none⟩) 65 65) (List.replicate 65 (0 : Int)) from by
    have h := BK2.out
    rw [HZ.out] at h
    exact R_arr (L := List.replicate 65 (0 : Int)) h GB.out (by decide))
  obtain ⟨n0, hn0⟩ : ∃ n0, n0 = (showL (2 : Int).toNat u0.toNat).length := ⟨_, rfl⟩
  have hn1 : 1 ≤ n0 ∧ n0 ≤ 32 := by
    have h1 := HU.out
    have h2 := HBb.out
    rw [hn0]
    exact ⟨showL_pos _ _, showL_len (2 : Int).toNat (by omega) 31 u0.toNat (by omega)⟩
  have HN0 := Aside0.mk hn0
  clear BK2 hn0
  go_loopg [1, 13] n0 (fun kq v1 v13 w' => ∃ (u i : Int) (L : List Int), v1 = .int .u64 u ∧ v13 = .int .i64 i ∧ Aside0 (0 ≤ u ∧ u < 4294967296 ∧ (showL (2 : Int).toNat u.toNat).length = kq ∧ kq ≤ n0 ∧ i = 65 - (n0 - kq) ∧ L.length = 65) ∧ Aside0 (showI 2 u ++ L.drop i.toNat = showI 2 u0) ∧ Aside0 (Kd.R (Kd.int .u8) 76 w' w.heap.size (fun _ => True) (.slice (some ⟨gb, 0, none⟩) 65 65) L) ∧ Aside0 (Below w.heap.size w w'))
  case atStart =>
    have h1 := HU.out
    exact ⟨u0, 65, _, rfl, rfl, ⟨h1.1, h1.2, HN0.out.symm, Nat.le_refl _, by omega, by simp⟩, ⟨by simp⟩, HR, HB2⟩
  case round =>
    clear HR HB2
    obtain ⟨u, i, L, rfl, rfl, HI, HS, HR, HB2⟩ := hrel
    have h7 := HBb.out
    by_cases hlt : 2 ≤ u
    · have d4 : decide (2 ≤ u) = true := decide_eq_true hlt
      obtain ⟨h1, h2, h3, h4, h5, h6⟩ := HI.out
      cases gk with
      | zero => exact absurd h3 (by have := showL_pos (2 : Int).toNat u.toNat; omega)
      | succ k1 =>
      cases k1 with
      | zero => exact absurd (showL_one (by omega) h3) (by omega)
      | succ k2 =>
      obtain ⟨h8, h9⟩ := showL_more (show 2 ≤ (2 : Int).toNat by omega) h3
      have hbig := showI_big h7.1 h7.2.1 hlt
      have hdm := Int.mul_ediv_add_emod u 2
      have hm0 := Int.emod_nonneg u (show (2 : Int) ≠ 0 by omega)
      have hm1 := Int.emod_lt_of_pos u (show (0 : Int) < 2 by omega)
      have hq0 : 0 ≤ u / 2 := Int.ediv_nonneg h1 (by omega)
      have hq1 : u / 2 ≤ u := Int.ediv_le_self _ h1
      have hqn : (u / 2).toNat = u.toNat / (2 : Int).toNat := by
        obtain ⟨n, rfl⟩ := Int.eq_ofNat_of_zero_le h1
        rfl
      rw [← hqn] at h9
      obtain ⟨q, hq⟩ : ∃ q : Int, q = u / 2 := ⟨_, rfl⟩
      obtain ⟨r, hr⟩ : ∃ r : Int, r = u % 2 := ⟨_, rfl⟩
      rw [← hq] at hbig hdm hq0 hq1 h9
      rw [← hr] at hbig hdm hm0 hm1
      obtain ⟨j, hj⟩ : ∃ j : Int, j = i - 1 := ⟨_, rfl⟩
      have hj2 : 0 ≤ j ∧ j < 65 := by omega
      have e1 : wrap64 (i - 1) = j := by unfold wrap64; omega
      have e2 : bits .and .u64 u 1 = r := by rw [hr]; exact and_mask u 1 h1 (by omega)
      have e3 : u / 2 = q := hq.symm
      obtain ⟨hx, hf⟩ := Kd.R_celln 0 HR.out j (by omega) (by omega)
      have hdg := digits_idx r (by omega)
      have p1 : (0 ≤ r) = True := eq_true hm0
      have p2 : (r < 36) = True := eq_true (by omega)
      have p3 : (0 ≤ j) = True := eq_true hj2.1
      have p4 : (j < 65) = True := eq_true hj2.2
      have HJ := Aside0.mk hj
      have HJ2 := Aside0.mk hj2
      have HBIG := Aside0.mk hbig
      have HQ := Aside0.mk (show 0 ≤ q ∧ q < 4294967296 from ⟨hq0, by omega⟩)
      have H9 := Aside0.mk h9
      have HP2 := Aside0.mk (Kd.R_putn HR.out j (chI r))
      clear hj hj2 hlt h1 h2 h3 h4 h5 h6 h7 h8 h9 hbig hdm hm0 hm1 hq0 hq1 hqn hq hr
      go_wp2
      go_roundg (k2 + 1)
      case measure => omega
      case rel =>
        have hi := HI.out
        have hj := HJ.out
        have hj2 := HJ2.out
        refine ⟨q, j, L.set j.toNat (chI r), rfl, rfl, ⟨HQ.out.1, HQ.out.2, H9.out, by omega, by omega, by rw [List.length_set]; exact hi.2.2.2.2.2⟩, ⟨?_⟩, ⟨HP2.out⟩, ⟨below_set HB2.out GB.out⟩⟩
        rw [drop_set_at L j.toNat (chI r) (by omega), show j.toNat + 1 = i.toNat by omega, ← HS.out, HBIG.out, List.append_assoc]
        rfl
    · have d4 : decide (2 ≤ u) = false := decide_eq_false hlt
      obtain ⟨j, hj⟩ : ∃ j : Int, j = i - 1 := ⟨_, rfl⟩
      have hj2 : 0 ≤ j ∧ j < 65 := by have := HI.out; omega
      have e1 : wrap64 (i - 1) = j := by unfold wrap64; omega
      obtain ⟨hx, hf⟩ := Kd.R_celln 0 HR.out j (by omega) (by omega)
      have hu1 := HI.out.1
      have hdg := digits_idx u (by omega)
      have p1 : (0 ≤ u) = True := eq_true hu1
      have p2 : (u < 36) = True := eq_true (by omega)
      have p3 : (0 ≤ j) = True := eq_true hj2.1
      have p4 : (j < 65) = True := eq_true hj2.2
      have HJ := Aside0.mk hj
      have HJ2 := Aside0.mk hj2
      have HLT := Aside0.mk hlt
      clear hj hj2 hlt hu1 h7
      have HP2 := Aside0.mk (Kd.R_putn HR.out j (chI u))
      obtain ⟨j3, hj3⟩ : ∃ j3 : Int, j3 = j - 1 := ⟨_, rfl⟩
      have hj4 : 0 ≤ j3 ∧ j3 < 65 := by have := HI.out; have := HJ.out; omega
      have e5 : wrap64 (j - 1) = j3 := by have := HJ2.out; unfold wrap64; omega
      obtain ⟨hx3, hf3⟩ := Kd.R_celln 0 HP2.out j3 (by omega) (by omega)
      have HP3 := Aside0.mk (Kd.R_putn HP2.out j3 45)
      have p5 : (0 ≤ j3) = True := eq_true hj4.1
      have p6 : (j3 < 65) = True := eq_true hj4.2
      have HJ3 := Aside0.mk hj3
      have HJ4 := Aside0.mk hj4
      clear hj3 hj4
      have hsl : ∀ W, (Instr.sliceAt 76 (.pointer (some ⟨gb, 0, none⟩)) (some (.int .i64 j3)) none none).run Tryd.prog W = .ok (.slice (some ⟨gb, j3.toNat, none⟩) (65 - j3.toNat) (65 - j3.toNat)) W := fun W => slice_arr gb j3 HJ4.out W
      have hcv : (convert 52 9 (.slice (some ⟨gb, j3.toNat, none⟩) (65 - j3.toNat) (65 - j3.toNat))).run Tryd.prog ((wr.setCell ⟨gb, j.toNat, none⟩ (.int .u8 (chI u))).setCell ⟨gb, j3.toNat, none⟩ (.int .u8 45)) = .ok (.string (strOfNums (45 :: showI 2 u0))) ((wr.setCell ⟨gb, j.toNat, none⟩ (.int .u8 (chI u))).setCell ⟨gb, j3.toNat, none⟩ (.int .u8 45)) := by
        have hi := HI.out
        have hj := HJ.out
        have hj2 := HJ2.out
        have hj3 := HJ3.out
        have hj4 := HJ4.out
        have h7 := HBb.out
        have h := C_cut (Kd.R_reads' HP3.out).2.2 (c := 65) (by rw [List.length_set, List.length_set]; omega) j3.toNat (65 - j3.toNat) (by rw [List.length_set, List.length_set]; omega)
        rw [cutAt_own (show j3.toNat < 65 by omega)] at h
        have h' : Kd.C (Kd.int .u8) ((wr.setCell ⟨gb, j.toNat, none⟩ (.int .u8 (chI u))).setCell ⟨gb, j3.toNat, none⟩ (.int .u8 45)) (some ⟨gb, j3.toNat * 1, none⟩) (65 - j3.toNat) ((((L.set j.toNat (chI u)).set j3.toNat 45).drop j3.toNat).take (65 - j3.toNat)) := h
        rw [Nat.mul_one] at h'
        have h2 := Kd.C_string (src := 52) (dst := 9) (c := 65 - j3.toNat) Tryd.underlying52 Tryd.underlying5 Tryd.underlying9 h'
        rw [h2, List.take_of_length_le (by rw [List.length_drop, List.length_set, List.length_set]; omega), drop_set_at _ j3.toNat 45 (by rw [List.length_set]; omega), show j3.toNat + 1 = j.toNat by omega, drop_set_at L j.toNat (chI u) (by omega), show j.toNat + 1 = i.toNat by omega, ← HS.out, showI_small hi.1 (Int.lt_of_not_ge HLT.out) h7.2.1]
        rfl
      go_wp2
      go_ret2
      exact ⟨rfl, below_set (below_set HB2.out GB.out) GB.out⟩
set_option maxHeartbeats 4000000 in
set_option maxRecDepth 100000 in
theorem formatBits_p4 (u0 : Int) (hu : 0 ≤ u0 ∧ u0 < 4294967296) (w : World) (ht : Tabs w) :
    Calls Tryd.prog 42 #[.slice none 0 0, .int .u64 u0, .int .i64 4, .bool false, .bool false] w fun e w' => e = .returned (.tuple #[.slice none 0 0, .string (strOfNums (showI 4 u0))]) ∧ Below w.heap.size w w' := by
  have HP := Aside0.mk (show strconv_isPowerOfTwo.f 4 = some true by kernel_rfl)
  have HBb := Aside0.mk (show (2 : Int) ≤ 4 ∧ (4 : Int) ≤ 36 ∧ (4 : Int) ≠ 10 by decide)
  have HT := Aside0.mk ht
  have hb := HBb.out
  have HU := Aside0.mk hu
  have HB := Aside0.mk (Below.refl w.heap.size w)
  obtain ⟨Z, hZ⟩ : ∃ Z, Z = Z65 := ⟨_, rfl⟩
  have HZ := Aside0.mk hZ
  clear ht hb hu hZ
  go_enter Tryd.func42, Tryd.ntmps42
  go_wp2_with (first
    | ((with_reducible refine gate_dst (N := 12) rfl ?_); refine box_event ?hg (N := 12) ?hd (cs := Z.toArray) (t := 76) ?hr ?_; (case hd => rfl); (case hg => rfl); (case hr => have hZ2 := HZ.out; first | (go_simp; done) | (go_simp; rfl)); intro gb hg w2 hbox hb; have BK := Aside0.mk hbox; have GB := Aside0.mk (show w.heap.size ≤ gb from hg ▸ Nat.le_refl _); have HB1 := Aside0.mk hb; clear hbox hb hg HB)
    | (go_at_call 50; refine (strconv_isPowerOfTwo.calls _ _ _ HP.out).mono ?_; rintro e w3 ⟨rfl, hd⟩; have HB3 := Aside0.mk (below_step HB1.out hd.below); have BK3 := Aside0.mk (blk_below BK.out hd.below); clear hd BK HB1)
    | (go_at_call 51; refine (tz_4 _ (HT.out.below HB3.out)).mono ?_; rintro e w4 ⟨rfl, hd⟩; have HB2 := Aside0.mk (below_step HB3.out hd); have BK2 := Aside0.mk (blk_below BK3.out hd); clear hd BK3 HB3))
  have HR := Aside0.mk (show Kd.R (Kd.int .u8) 76 _ w.heap.size (fun _ => True) (.slice (some ⟨gb, 0, none⟩) 65 65) (List.replicate 65 (0 : Int)) from by
    have h := BK2.out
    rw [HZ.out] at h
    exact R_arr (L := List.replicate 65 (0 : Int)) h GB.out (by decide))
  obtain ⟨n0, hn0⟩ : ∃ n0, n0 = (showL (4 : Int).toNat u0.toNat).length := ⟨_, rfl⟩
  have hn1 : 1 ≤ n0 ∧ n0 ≤ 32 := by
    have h1 := HU.out
    have h2 := HBb.out
    rw [hn0]
    exact ⟨showL_pos _ _, showL_len (4 : Int).toNat (by omega) 31 u0.toNat (by omega)⟩
  have HN0 := Aside0.mk hn0
  clear BK2 hn0
  go_loopg [1, 13] n0 (fun kq v1 v13 w' => ∃ (u i : Int) (L : List Int), v1 = .int .u64 u ∧ v13 = .int .i64 i ∧ Aside0 (0 ≤ u ∧ u < 4294967296 ∧ (showL (4 : Int).toNat u.toNat).length = kq ∧ kq ≤ n0 ∧ i = 65 - (n0 - kq) ∧ L.length = 65) ∧ Aside0 (showI 4 u ++ L.drop i.toNat = showI 4 u0) ∧ Aside0 (Kd.R (Kd.int .u8) 76 w' w.heap.size (fun _ => True) (.slice (some ⟨gb, 0, none⟩) 65 65) L) ∧ Aside0 (Below w.heap.size w w'))
  case atStart =>
    have h1 := HU.out
    exact ⟨u0, 65, _, rfl, rfl, ⟨h1.1, h1.2, HN0.out.symm, Nat.le_refl _, by omega, by simp⟩, ⟨by simp⟩, HR, HB2⟩
  case round =>
    clear HR HB2
    obtain ⟨u, i, L, rfl, rfl, HI, HS, HR, HB2⟩ := hrel
    have h7 := HBb.out
    by_cases hlt : 4 ≤ u
    · have d4 : decide (4 ≤ u) = true := decide_eq_true hlt
      obtain ⟨h1, h2, h3, h4, h5, h6⟩ := HI.out
      cases gk with
      | zero => exact absurd h3 (by have := showL_pos (4 : Int).toNat u.toNat; omega)
      | succ k1 =>
      cases k1 with
      | zero => exact absurd (showL_one (by omega) h3) (by omega)
      | succ k2 =>
      obtain ⟨h8, h9⟩ := showL_more (show 2 ≤ (4 : Int).toNat by omega) h3
      have hbig := showI_big h7.1 h7.2.1 hlt
      have hdm := Int.mul_ediv_add_emod u 4
      have hm0 := Int.emod_nonneg u (show (4 : Int) ≠ 0 by omega)
      have hm1 := Int.emod_lt_of_pos u (show (0 : Int) < 4 by omega)
      have hq0 : 0 ≤ u / 4 := Int.ediv_nonneg h1 (by omega)
      have hq1 : u / 4 ≤ u := Int.ediv_le_self _ h1
      have hqn : (u / 4).toNat = u.toNat / (4 : Int).toNat := by
        obtain ⟨n, rfl⟩ := Int.eq_ofNat_of_zero_le h1
        rfl
      rw [← hqn] at h9
      obtain ⟨q, hq⟩ : ∃ q : Int, q = u / 4 := ⟨_, rfl⟩
      obtain ⟨r, hr⟩ : ∃ r : Int, r = u % 4 := ⟨_, rfl⟩
      rw [← hq] at hbig hdm hq0 hq1 h9
      rw [← hr] at hbig hdm hm0 hm1
      obtain ⟨j, hj⟩ : ∃ j : Int, j = i - 1 := ⟨_, rfl⟩
      have hj2 : 0 ≤ j ∧ j < 65 := by omega
      have e1 : wrap64 (i - 1) = j := by unfold wrap64; omega
      have e2 : bits .and .u64 u 3 = r := by rw [hr]; exact and_mask u 2 h1 (by omega)
      have e3 : u / 4 = q := hq.symm
      obtain ⟨hx, hf⟩ := Kd.R_celln 0 HR.out j (by omega) (by omega)
      have hdg := digits_idx r (by omega)
      have p1 : (0 ≤ r) = True := eq_true hm0
      have p2 : (r < 36) = True := eq_true (by omega)
      have p3 : (0 ≤ j) = True := eq_true hj2.1
      have p4 : (j < 65) = True := eq_true hj2.2
      have HJ := Aside0.mk hj
      have HJ2 := Aside0.mk hj2
      have HBIG := Aside0.mk hbig
      have HQ := Aside0.mk (show 0 ≤ q ∧ q < 4294967296 from ⟨hq0, by omega⟩)
      have H9 := Aside0.mk h9
      have HP2 := Aside0.mk (Kd.R_putn HR.out j (chI r))
      clear hj hj2 hlt h1 h2 h3 h4 h5 h6 h7 h8 h9 hbig hdm hm0 hm1 hq0 hq1 hqn hq hr
      go_wp2
      go_roundg (k2 + 1)
      case measure => omega
      case rel =>
        have hi := HI.out
        have hj := HJ.out
        have hj2 := HJ2.out
        refine ⟨q, j, L.set j.toNat (chI r), rfl, rfl, ⟨HQ.out.1, HQ.out.2, H9.out, by omega, by omega, by rw [List.length_set]; exact hi.2.2.2.2.2⟩, ⟨?_⟩, ⟨HP2.out⟩, ⟨below_set HB2.out GB.out⟩⟩
        rw [drop_set_at L j.toNat (chI r) (by omega), show j.toNat + 1 = i.toNat by omega, ← HS.out, HBIG.out, List.append_assoc]
        rfl
    · have d4 : decide (4 ≤ u) = false := decide_eq_false hlt
      obtain ⟨j, hj⟩ : ∃ j : Int, j = i - 1 := ⟨_, rfl⟩
      have hj2 : 0 ≤ j ∧ j < 65 := by have := HI.out; omega
      have e1 : wrap64 (i - 1) = j := by unfold wrap64; omega
      obtain ⟨hx, hf⟩ := Kd.R_celln 0 HR.out j (by omega) (by omega)
      have hu1 := HI.out.1
      have hdg := digits_idx u (by omega)
      have p1 : (0 ≤ u) = True := eq_true hu1
      have p2 : (u < 36) = True := eq_true (by omega)
      have p3 : (0 ≤ j) = True := eq_true hj2.1
      have p4 : (j < 65) = True := eq_true hj2.2
      have HJ := Aside0.mk hj
      have HJ2 := Aside0.mk hj2
      have HLT := Aside0.mk hlt
      clear hj hj2 hlt hu1 h7
      have HP2 := Aside0.mk (Kd.R_putn HR.out j (chI u))
      have hsl : ∀ W, (Instr.sliceAt 76 (.pointer (some ⟨gb, 0, none⟩)) (some (.int .i64 j)) none none).run Tryd.prog W = .ok (.slice (some ⟨gb, j.toNat, none⟩) (65 - j.toNat) (65 - j.toNat)) W := fun W => slice_arr gb j HJ2.out W
      have hcv : (convert 52 9 (.slice (some ⟨gb, j.toNat, none⟩) (65 - j.toNat) (65 - j.toNat))).run Tryd.prog (wr.setCell ⟨gb, j.toNat, none⟩ (.int .u8 (chI u))) = .ok (.string (strOfNums (showI 4 u0))) (wr.setCell ⟨gb, j.toNat, none⟩ (.int .u8 (chI u))) := by
        have hi := HI.out
        have hj := HJ.out
        have hj2 := HJ2.out
        have h7 := HBb.out
        have h := C_cut (Kd.R_reads' HP2.out).2.2 (c := 65) (by rw [List.length_set]; omega) j.toNat (65 - j.toNat) (by rw [List.length_set]; omega)
        rw [cutAt_own (show j.toNat < 65 by omega)] at h
        have h' : Kd.C (Kd.int .u8) (wr.setCell ⟨gb, j.toNat, none⟩ (.int .u8 (chI u))) (some ⟨gb, j.toNat * 1, none⟩) (65 - j.toNat) (((L.set j.toNat (chI u)).drop j.toNat).take (65 - j.toNat)) := h
        rw [Nat.mul_one] at h'
        have h2 := Kd.C_string (src := 52) (dst := 9) (c := 65 - j.toNat) Tryd.underlying52 Tryd.underlying5 Tryd.underlying9 h'
        rw [h2, List.take_of_length_le (by rw [List.length_drop, List.length_set]; omega), drop_set_at L j.toNat (chI u) (by omega), show j.toNat + 1 = i.toNat by omega, ← HS.out, showI_small hi.1 (Int.lt_of_not_ge HLT.out) h7.2.1]
        rfl
      go_wp2
      go_ret2
      exact ⟨rfl, below_set HB2.out GB.out⟩
set_option maxHeartbeats 4000000 in
set_option maxRecDepth 100000 in
theorem formatBits_p4_neg (u0 : Int) (hu : 0 ≤ u0 ∧ u0 < 4294967296) (U : Int) (hU : IntKind.u64.wrap (-U) = u0) (w : World) (ht : Tabs w) :
    Calls Tryd.prog 42 #[.slice none 0 0, .int .u64 U, .int .i64 4, .bool true, .bool false] w fun e w' => e = .returned (.tuple #[.slice none 0 0, .string (strOfNums (45 :: showI 4 u0))]) ∧ Below w.heap.size w w' := by
  have HP := Aside0.mk (show strconv_isPowerOfTwo.f 4 = some true by kernel_rfl)
  have HBb := Aside0.mk (show (2 : Int) ≤ 4 ∧ (4 : Int) ≤ 36 ∧ (4 : Int) ≠ 10 by decide)
  have HT := Aside0.mk ht
  have hb := HBb.out
  have HU := Aside0.mk hu
  have HB := Aside0.mk (Below.refl w.heap.size w)
  obtain ⟨Z, hZ⟩ : ∃ Z, Z = Z65 := ⟨_, rfl⟩
  have HZ := Aside0.mk hZ
  clear ht hb hu hZ
  go_enter Tryd.func42, Tryd.ntmps42
  go_wp2_with (first
    | ((with_reducible refine gate_dst (N := 12) rfl ?_); refine box_event ?hg (N := 12) ?hd (cs := Z.toArray) (t := 76) ?hr ?_; (case hd => rfl); (case hg => rfl); (case hr => have hZ2 := HZ.out; first | (go_simp; done) | (go_simp; rfl)); intro gb hg w2 hbox hb; have BK := Aside0.mk hbox; have GB := Aside0.mk (show w.heap.size ≤ gb from hg ▸ Nat.le_refl _); have HB1 := Aside0.mk hb; clear hbox hb hg HB)
    | (go_at_call 50; refine (strconv_isPowerOfTwo.calls _ _ _ HP.out).mono ?_; rintro e w3 ⟨rfl, hd⟩; have HB3 := Aside0.mk (below_step HB1.out hd.below); have BK3 := Aside0.mk (blk_below BK.out hd.below); clear hd BK HB1)
    | (go_at_call 51; refine (tz_4 _ (HT.out.below HB3.out)).mono ?_; rintro e w4 ⟨rfl, hd⟩; have HB2 := Aside0.mk (below_step HB3.out hd); have BK2 := Aside0.mk (blk_below BK3.out hd); clear hd BK3 HB3))
  have HR := Aside0.mk (show Kd.R (Kd.int .u8) 76 _ w.heap.size (fun _ => True) (.slice (some ⟨gb, 0, none⟩) 65 65) (List.replicate 65 (0 : Int)) from by
    have h := BK2.out
    rw [HZ.out] at h
    exact R_arr (L := List.replicate 65 (0 : Int)) h GB.out (by decide))
  obtain ⟨n0, hn0⟩ : ∃ n0, n0 = (showL (4 : Int).toNat u0.toNat).length := ⟨_, rfl⟩
  have hn1 : 1 ≤ n0 ∧ n0 ≤ 32 := by
    have h1 := HU.out
    have h2 := HBb.out
    rw [hn0]
    exact ⟨showL_pos _ _, showL_len (4 : Int).toNat (by omega) 31 u0.toNat (by omega)⟩
  have HN0 := Aside0.mk hn0
  clear BK2 hn0
  go_loopg [1, 13] n0 (fun kq v1 v13 w' => ∃ (u i : Int) (L : List Int), v1 = .int .u64 u ∧ v13 = .int .i64 i ∧ Aside0 (0 ≤ u ∧ u < 4294967296 ∧ (showL (4 : Int).toNat u.toNat).length = kq ∧ kq ≤ n0 ∧ i = 65 - (n0 - kq) ∧ L.length = 65) ∧ Aside0 (showI 4 u ++ L.drop i.toNat = showI 4 u0) ∧ Aside0 (Kd.R (Kd.int .u8) 76 w' w.heap.size (fun _ => True) (.slice (some ⟨gb, 0, none⟩) 65 65) L) ∧ Aside0 (Below w.heap.size w w'))
  case atStart =>
    have h1 := HU.out
    exact ⟨u0, 65, _, rfl, rfl, ⟨h1.1, h1.2, HN0.out.symm, Nat.le_refl _, by omega, by simp⟩, ⟨by simp⟩, HR, HB2⟩
  case round =>
    clear HR HB2
    obtain ⟨u, i, L, rfl, rfl, HI, HS, HR, HB2⟩ := hrel
    have h7 := HBb.out
    by_cases hlt : 4 ≤ u
    · have d4 : decide (4 ≤ u) = true := decide_eq_true hlt
      obtain ⟨h1, h2, h3, h4, h5, h6⟩ := HI.out
      cases gk with
      | zero => exact absurd h3 (by have := showL_pos (4 : Int).toNat u.toNat; omega)
      | succ k1 =>
      cases k1 with
      | zero => exact absurd (showL_one (by omega) h3) (by omega)
      | succ k2 =>
      obtain ⟨h8, h9⟩ := showL_more (show 2 ≤ (4 : Int).toNat by omega) h3
      have hbig := showI_big h7.1 h7.2.1 hlt
      have hdm := Int.mul_ediv_add_emod u 4
      have hm0 := Int.emod_nonneg u (show (4 : Int) ≠ 0 by omega)
      have hm1 := Int.emod_lt_of_pos u (show (0 : Int) < 4 by omega)
      have hq0 : 0 ≤ u / 4 := Int.ediv_nonneg h1 (by omega)
      have hq1 : u / 4 ≤ u := Int.ediv_le_self _ h1
      have hqn : (u / 4).toNat = u.toNat / (4 : Int).toNat := by
        obtain ⟨n, rfl⟩ := Int.eq_ofNat_of_zero_le h1
        rfl
      rw [← hqn] at h9
      obtain ⟨q, hq⟩ : ∃ q : Int, q = u / 4 := ⟨_, rfl⟩
      obtain ⟨r, hr⟩ : ∃ r : Int, r = u % 4 := ⟨_, rfl⟩
      rw [← hq] at hbig hdm hq0 hq1 h9
      rw [← hr] at hbig hdm hm0 hm1
      obtain ⟨j, hj⟩ : ∃ j : Int, j = i - 1 := ⟨_, rfl⟩
      have hj2 : 0 ≤ j ∧ j < 65 := by omega
      have e1 : wrap64 (i - 1) = j := by unfold wrap64; omega
      have e2 : bits .and .u64 u 3 = r := by rw [hr]; exact and_mask u 2 h1 (by omega)
      have e3 : u / 4 = q := hq.symm
      obtain ⟨hx, hf⟩ := Kd.R_celln 0 HR.out j (by omega) (by omega)
      have hdg := digits_idx r (by omega)
      have p1 : (0 ≤ r) = True := eq_true hm0
      have p2 : (r < 36) = True := eq_true (by omega)
      have p3 : (0 ≤ j) = True := eq_true hj2.1
      have p4 : (j < 65) = True := eq_true hj2.2
      have HJ := Aside0.mk hj
      have HJ2 := Aside0.mk hj2
      have HBIG := Aside0.mk hbig
      have HQ := Aside0.mk (show 0 ≤ q ∧ q < 4294967296 from ⟨hq0, by omega⟩)
      have H9 := Aside0.mk h9
      have HP2 := Aside0.mk (Kd.R_putn HR.out j (chI r))
      clear hj hj2 hlt h1 h2 h3 h4 h5 h6 h7 h8 h9 hbig hdm hm0 hm1 hq0 hq1 hqn hq hr
      go_wp2
      go_roundg (k2 + 1)
      case measure => omega
      case rel =>
        have hi := HI.out
        have hj := HJ.out
        have hj2 := HJ2.out
        refine ⟨q, j, L.set j.toNat (chI r), rfl, rfl, ⟨HQ.out.1, HQ.out.2, H9.out, by omega, by omega, by rw [List.length_set]; exact hi.2.2.2.2.2⟩, ⟨?_⟩, ⟨HP2.out⟩, ⟨below_set HB2.out GB.out⟩⟩
        rw [drop_set_at L j.toNat (chI r) (by omega), show j.toNat + 1 = i.toNat by omega, ← HS.out, HBIG.out, List.append_assoc]
        rfl
    · have d4 : decide (4 ≤ u) = false := decide_eq_false hlt
      obtain ⟨j, hj⟩ : ∃ j : Int, j = i - 1 := ⟨_, rfl⟩
      have hj2 : 0 ≤ j ∧ j < 65 := by have := HI.out; omega
      have e1 : wrap64 (i - 1) = j := by unfold wrap64; omega
      obtain ⟨hx, hf⟩ := Kd.R_celln 0 HR.out j (by omega) (by omega)
      have hu1 := HI.out.1
      have hdg := digits_idx u (by omega)
      have p1 : (0 ≤ u) = True := eq_true hu1
      have p2 : (u < 36) = True := eq_true (by omega)
      have p3 : (0 ≤ j) = True := eq_true hj2.1
      have p4 : (j < 65) = True := eq_true hj2.2
      have HJ := Aside0.mk hj
      have HJ2 := Aside0.mk hj2
      have HLT := Aside0.mk hlt
      clear hj hj2 hlt hu1 h7
      have HP2 := Aside0.mk (Kd.R_putn HR.out j (chI u))
      obtain ⟨j3, hj3⟩ : ∃ j3 : Int, j3 = j - 1 := ⟨_, rfl⟩
      have hj4 : 0 ≤ j3 ∧ j3 < 65 := by have := HI.out; have := HJ.out; omega
      have e5 : wrap64 (j - 1) = j3 := by have := HJ2.out; unfold wrap64; omega
      obtain ⟨hx3, hf3⟩ := Kd.R_celln 0 HP2.out j3 (by omega) (by omega)
      have HP3 := Aside0.mk (Kd.R_putn HP2.out j3 45)
      have p5 : (0 ≤ j3) = True := eq_true hj4.1
      have p6 : (j3 < 65) = True := eq_true hj4.2
      have HJ3 := Aside0.mk hj3
      have HJ4 := Aside0.mk hj4
      clear hj3 hj4
      have hsl : ∀ W, (Instr.sliceAt 76 (.pointer (some ⟨gb, 0, none⟩)) (some (.int .i64 j3)) none none).run Tryd.prog W = .ok (.slice (some ⟨gb, j3.toNat, none⟩) (65 - j3.toNat) (65 - j3.toNat)) W := fun W => slice_arr gb j3 HJ4.out W
      have hcv : (convert 52 9 (.slice (some ⟨gb, j3.toNat, none⟩) (65 - j3.toNat) (65 - j3.toNat))).run Tryd.prog ((wr.setCell ⟨gb, j.toNat, none⟩ (.int .u8 (chI u))).setCell ⟨gb, j3.toNat, none⟩ (.int .u8 45)) = .ok (.string (strOfNums (45 :: showI 4 u0))) ((wr.setCell ⟨gb, j.toNat, none⟩ (.int .u8 (chI u))).setCell ⟨gb, j3.toNat, none⟩ (.int .u8 45)) := by
        have hi := HI.out
        have hj := HJ.out
        have hj2 := HJ2.out
        have hj3 := HJ3.out
        have hj4 := HJ4.out
        have h7 := HBb.out
        have h := C_cut (Kd.R_reads' HP3.out).2.2 (c := 65) (by rw [List.length_set, List.length_set]; omega) j3.toNat (65 - j3.toNat) (by rw [List.length_set, List.length_set]; omega)
        rw [cutAt_own (show j3.toNat < 65 by omega)] at h
        have h' : Kd.C (Kd.int .u8) ((wr.setCell ⟨gb, j.toNat, none⟩ (.int .u8 (chI u))).setCell ⟨gb, j3.toNat, none⟩ (.int .u8 45)) (some ⟨gb, j3.toNat * 1, none⟩) (65 - j3.toNat) ((((L.set j.toNat (chI u)).set j3.toNat 45).drop j3.toNat).take (65 - j3.toNat)) := h
        rw [Nat.mul_one] at h'
        have h2 := Kd.C_string (src := 52) (dst := 9) (c := 65 - j3.toNat) Tryd.underlying52 Tryd.underlying5 Tryd.underlying9 h'
        rw [h2, List.take_of_length_le (by rw [List.length_drop, List.length_set, List.length_set]; omega), drop_set_at _ j3.toNat 45 (by rw [List.length_set]; omega), show j3.toNat + 1 = j.toNat by omega, drop_set_at L j.toNat (chI u) (by omega), show j.toNat + 1 = i.toNat by omega, ← HS.out, showI_small hi.1 (Int.lt_of_not_ge HLT.out) h7.2.1]
        rfl
      go_wp2
      go_ret2
      exact ⟨rfl, below_set (below_set HB2.out GB.out) GB.out⟩
set_option maxHeartbeats 4000000 in
set_option maxRecDepth 100000 in
theorem formatBits_p8 (u0 : Int) (hu : 0 ≤ u0 ∧ u0 < 4294967296) (w : World) (ht : Tabs w) :
    Calls Tryd.prog 42 #[.slice none 0 0, .int .u64 u0, .int .i64 8, .bool false, .bool false] w fun e w' => e = .returned (.tuple #[.slice none 0 0, .string (strOfNums (showI 8 u0))]) ∧ Below w.heap.size w w' := by
  have HP := Aside0.mk (show strconv_isPowerOfTwo.f 8 = some true by kernel_rfl)
  have HBb := Aside0.mk (show (2 : Int) ≤ 8 ∧ (8 : Int) ≤ 36 ∧ (8 : Int) ≠ 10 by decide)
  have HT := Aside0.mk ht
  have hb := HBb.out
  have HU := Aside0.mk hu
  have HB := Aside0.mk (Below.refl w.heap.size w)
  obtain ⟨Z, hZ⟩ : ∃ Z, Z = Z65 := ⟨_, rfl⟩
  have HZ := Aside0.mk hZ
  clear ht hb hu hZ
  go_enter Tryd.func42, Tryd.ntmps42
  go_wp2_with (first
    | ((with_reducible refine gate_dst (N := 12) rfl ?_); refine box_event ?hg (N := 12) ?hd (cs := Z.toArray) (t := 76) ?hr ?_; (case hd => rfl); (case hg => rfl); (case hr => have hZ2 := HZ.out; first | (go_simp; done) | (go_simp; rfl)); intro gb hg w2 hbox hb; have BK := Aside0.mk hbox; have GB := Aside0.mk (show w.heap.size ≤ gb from hg ▸ Nat.le_refl _); have HB1 := Aside0.mk hb; clear hbox hb hg HB)
    | (go_at_call 50; refine (strconv_isPowerOfTwo.calls _ _ _ HP.out).mono ?_; rintro e w3 ⟨rfl, hd⟩; have HB3 := Aside0.mk (below_step HB1.out hd.below); have BK3 := Aside0.mk (blk_below BK.out hd.below); clear hd BK HB1)
    | (go_at_call 51; refine (tz_8 _ (HT.out.below HB3.out)).mono ?_; rintro e w4 ⟨rfl, hd⟩; have HB2 := Aside0.mk (below_step HB3.out hd); have BK2 := Aside0.mk (blk_below BK3.out hd); clear hd BK3 HB3))
  have HR := Aside0.mk (show Kd.R (Kd.int .u8) 76 _ w.heap.size (fun _ => True) (.slice (some ⟨gb, 0, none⟩) 65 65) (List.replicate 65 (0 : Int)) from by
    have h := BK2.out
    rw [HZ.out] at h
    exact R_arr (L := List.replicate 65 (0 : Int)) h GB.out (by decide))
  obtain ⟨n0, hn0⟩ : ∃ n0, n0 = (showL (8 : Int).toNat u0.toNat).length := ⟨_, rfl⟩
  have hn1 : 1 ≤ n0 ∧ n0 ≤ 32 := by
    have h1 := HU.out
    have h2 := HBb.out
    rw [hn0]
    exact ⟨showL_pos _ _, showL_len (8 : Int).toNat (by omega) 31 u0.toNat (by omega)⟩
  have HN0 := Aside0.mk hn0
  clear BK2 hn0
  go_loopg [1, 13] n0 (fun kq v1 v13 w' => ∃ (u i : Int) (L : List Int), v1 = .int .u64 u ∧ v13 = .int .i64 i ∧ Aside0 (0 ≤ u ∧ u < 4294967296 ∧ (showL (8 : Int).toNat u.toNat).length = kq ∧ kq ≤ n0 ∧ i = 65 - (n0 - kq) ∧ L.length = 65) ∧ Aside0 (showI 8 u ++ L.drop i.toNat = showI 8 u0) ∧ Aside0 (Kd.R (Kd.int .u8) 76 w' w.heap.size (fun _ => True) (.slice (some ⟨gb, 0, none⟩) 65 65) L) ∧ Aside0 (Below w.heap.size w w'))
  case atStart =>
    have h1 := HU.out
    exact ⟨u0, 65, _, rfl, rfl, ⟨h1.1, h1.2, HN0.out.symm, Nat.le_refl _, by omega, by simp⟩, ⟨by simp⟩, HR, HB2⟩
  case round =>
    clear HR HB2
    obtain ⟨u, i, L, rfl, rfl, HI, HS, HR, HB2⟩ := hrel
    have h7 := HBb.out
    by_cases hlt : 8 ≤ u
    · have d4 : decide (8 ≤ u) = true := decide_eq_true hlt
      obtain ⟨h1, h2, h3, h4, h5, h6⟩ := HI.out
      cases gk with
      | zero => exact absurd h3 (by have := showL_pos (8 : Int).toNat u.toNat; omega)
      | succ k1 =>
      cases k1 with
      | zero => exact absurd (showL_one (by omega) h3) (by omega)
      | succ k2 =>
      obtain ⟨h8, h9⟩ := showL_more (show 2 ≤ (8 : Int).toNat by omega) h3
      have hbig := showI_big h7.1 h7.2.1 hlt
      have hdm := Int.mul_ediv_add_emod u 8
      have hm0 := Int.emod_nonneg u (show (8 : Int) ≠ 0 by omega)
      have hm1 := Int.emod_lt_of_pos u (show (0 : Int) < 8 by omega)
      have hq0 : 0 ≤ u / 8 := Int.ediv_nonneg h1 (by omega)
      have hq1 : u / 8 ≤ u := Int.ediv_le_self _ h1
      have hqn : (u / 8).toNat = u.toNat / (8 : Int).toNat := by
        obtain ⟨n, rfl⟩ := Int.eq_ofNat_of_zero_le h1
        rfl
      rw [← hqn] at h9
      obtain ⟨q, hq⟩ : ∃ q : Int, q = u / 8 := ⟨_, rfl⟩
      obtain ⟨r, hr⟩ : ∃ r : Int, r = u % 8 := ⟨_, rfl⟩
      rw [← hq] at hbig hdm hq0 hq1 h9
      rw [← hr] at hbig hdm hm0 hm1
      obtain ⟨j, hj⟩ : ∃ j : Int, j = i - 1 := ⟨_, rfl⟩
      have hj2 : 0 ≤ j ∧ j < 65 := by omega
      have e1 : wrap64 (i - 1) = j := by unfold wrap64; omega
      have e2 : bits .and .u64 u 7 = r := by rw [hr]; exact and_mask u 3 h1 (by omega)
      have e3 : u / 8 = q := hq.symm
      obtain ⟨hx, hf⟩ := Kd.R_celln 0 HR.out j (by omega) (by omega)
      have hdg := digits_idx r (by omega)
      have p1 : (0 ≤ r) = True := eq_true hm0
      have p2 : (r < 36) = True := eq_true (by omega)
      have p3 : (0 ≤ j) = True := eq_true hj2.1
      have p4 : (j < 65) = True := eq_true hj2.2
      have HJ := Aside0.mk hj
      have HJ2 := Aside0.mk hj2
      have HBIG := Aside0.mk hbig
      have HQ := Aside0.mk (show 0 ≤ q ∧ q < 4294967296 from ⟨hq0, by omega⟩)
      have H9 := Aside0.mk h9
      have HP2 := Aside0.mk (Kd.R_putn HR.out j (chI r))
      clear hj hj2 hlt h1 h2 h3 h4 h5 h6 h7 h8 h9 hbig hdm hm0 hm1 hq0 hq1 hqn hq hr
      go_wp2
      go_roundg (k2 + 1)
      case measure => omega
      case rel =>
        have hi := HI.out
        have hj := HJ.out
        have hj2 := HJ2.out
        refine ⟨q, j, L.set j.toNat (chI r), rfl, rfl, ⟨HQ.out.1, HQ.out.2, H9.out, by omega, by omega, by rw [List.length_set]; exact hi.2.2.2.2.2⟩, ⟨?_⟩, ⟨HP2.out⟩, ⟨below_set HB2.out GB.out⟩⟩
        rw [drop_set_at L j.toNat (chI r) (by omega), show j.toNat + 1 = i.toNat by omega, ← HS.out, HBIG.out, List.append_assoc]
        rfl
    · have d4 : decide (8 ≤ u) = false := decide_eq_false hlt
      obtain ⟨j, hj⟩ : ∃ j : Int, j = i - 1 := ⟨_, rfl⟩
      have hj2 : 0 ≤ j ∧ j < 65 := by have := HI.out; omega
      have e1 : wrap64 (i - 1) = j := by unfold wrap64; omega
      obtain ⟨hx, hf⟩ := Kd.R_celln 0 HR.out j (by omega) (by omega)
      have hu1 := HI.out.1
      have hdg := digits_idx u (by omega)
      have p1 : (0 ≤ u) = True := eq_true hu1
      have p2 : (u < 36) = True := eq_true (by omega)
      have p3 : (0 ≤ j) = True := eq_true hj2.1
      have p4 : (j < 65) = True := eq_true hj2.2
      have HJ := Aside0.mk hj
      have HJ2 := Aside0.mk hj2
      have HLT := Aside0.mk hlt
      clear hj hj2 hlt hu1 h7
      have HP2 := Aside0.mk (Kd.R_putn HR.out j (chI u))
      have hsl : ∀ W, (Instr.sliceAt 76 (.pointer (some ⟨gb, 0, none⟩)) (some (.int .i64 j)) none none).run Tryd.prog W = .ok (.slice (some ⟨gb, j.toNat, none⟩) (65 - j.toNat) (65 - j.toNat)) W := fun W => slice_arr gb j HJ2.out W
      have hcv : (convert 52 9 (.slice (some ⟨gb, j.toNat, none⟩) (65 - j.toNat) (65 - j.toNat))).run Tryd.prog (wr.setCell ⟨gb, j.toNat, none⟩ (.int .u8 (chI u))) = .ok (.string (strOfNums (showI 8 u0))) (wr.setCell ⟨gb, j.toNat, none⟩ (.int .u8 (chI u))) := by
        have hi := HI.out
        have hj := HJ.out
        have hj2 := HJ2.out
        have h7 := HBb.out
        have h := C_cut (Kd.R_reads' HP2.out).2.2 (c := 65) (by rw [List.length_set]; omega) j.toNat (65 - j.toNat) (by rw [List.length_set]; omega)
        rw [cutAt_own (show j.toNat < 65 by omega)] at h
        have h' : Kd.C (Kd.int .u8) (wr.setCell ⟨gb, j.toNat, none⟩ (.int .u8 (chI u))) (some ⟨gb, j.toNat * 1, none⟩) (65 - j.toNat) (((L.set j.toNat (chI u)).drop j.toNat).take (65 - j.toNat)) := h
        rw [Nat.mul_one] at h'
        have h2 := Kd.C_string (src := 52) (dst := 9) (c := 65 - j.toNat) Tryd.underlying52 Tryd.underlying5 Tryd.underlying9 h'
        rw [h2, List.take_of_length_le (by rw [List.length_drop, List.length_set]; omega), drop_set_at L j.toNat (chI u) (by omega), show j.toNat + 1 = i.toNat by omega, ← HS.out, showI_small hi.1 (Int.lt_of_not_ge HLT.out) h7.2.1]
        rfl
      go_wp2
      go_ret2
      exact ⟨rfl, below_set HB2.out GB.out⟩
set_option maxHeartbeats 4000000 in
set_option maxRecDepth 100000 in
theorem formatBits_p8_neg (u0 : Int) (hu : 0 ≤ u0 ∧ u0 < 4294967296) (U : Int) (hU : IntKind.u64.wrap (-U) = u0) (w : World) (ht : Tabs w) :
    Calls Tryd.prog 42 #[.slice none 0 0, .int .u64 U, .int .i64 8, .bool true, .bool false] w fun e w' => e = .returned (.tuple #[.slice none 0 0, .string (strOfNums (45 :: showI 8 u0))]) ∧ Below w.heap.size w w' := by
  have HP := Aside0.mk (show strconv_isPowerOfTwo.f 8 = some true by kernel_rfl)
  have HBb := Aside0.mk (show (2 : Int) ≤ 8 ∧ (8 : Int) ≤ 36 ∧ (8 : Int) ≠ 10 by decide)
  have HT := Aside0.mk ht
  have hb := HBb.out
  have HU := Aside0.mk hu
  have HB := Aside0.mk (Below.refl w.heap.size w)
  obtain ⟨Z, hZ⟩ : ∃ Z, Z = Z65 := ⟨_, rfl⟩
  have HZ := Aside0.mk hZ
  clear ht hb hu hZ
  go_enter Tryd.func42, Tryd.ntmps42
  go_wp2_with (first
    | ((with_reducible refine gate_dst (N := 12) rfl ?_); refine box_event ?hg (N := 12) ?hd (cs := Z.toArray) (t := 76) ?hr ?_; (case hd => rfl); (case hg => rfl); (case hr => have hZ2 := HZ.out; first | (go_simp; done) | (go_simp; rfl)); intro gb hg w2 hbox hb; have BK := Aside0.mk hbox; have GB := Aside0.mk (show w.heap.size ≤ gb from hg ▸ Nat.le_refl _); have HB1 := Aside0.mk hb; clear hbox hb hg HB)
    | (go_at_call 50; refine (strconv_isPowerOfTwo.calls _ _ _ HP.out).mono ?_; rintro e w3 ⟨rfl, hd⟩; have HB3 := Aside0.mk (below_step HB1.out hd.below); have BK3 := Aside0.mk (blk_below BK.out hd.below); clear hd BK HB1)
    | (go_at_call 51; refine (tz_8 _ (HT.out.below HB3.out)).mono ?_; rintro e w4 ⟨rfl, hd⟩; have HB2 := Aside0.mk (below_step HB3.out hd); have BK2 := Aside0.mk (blk_below BK3.out hd); clear hd BK3 HB3))
  have HR := Aside0.mk (show Kd.R (Kd.int .u8) 76 _ w.heap.size (fun _ => True) (.slice (some ⟨gb, 0, none⟩) 65 65) (List.replicate 65 (0 : Int)) from by
    have h := BK2.out
    rw [HZ.out] at h
    exact R_arr (L := List.replicate 65 (0 : Int)) h GB.out (by decide))
  obtain ⟨n0, hn0⟩ : ∃ n0, n0 = (showL (8 : Int).toNat u0.toNat).length := ⟨_, rfl⟩
  have hn1 : 1 ≤ n0 ∧ n0 ≤ 32 := by
    have h1 := HU.out
    have h2 := HBb.out
    rw [hn0]
    exact ⟨showL_pos _ _, showL_len (8 : Int).toNat (by omega) 31 u0.toNat (by omega)⟩
  have HN0 := Aside0.mk hn0
  clear BK2 hn0
  go_loopg [1, 13] n0 (fun kq v1 v13 w' => ∃ (u i : Int) (L : List Int), v1 = .int .u64 u ∧ v13 = .int .i64 i ∧ Aside0 (0 ≤ u ∧ u < 4294967296 ∧ (showL (8 : Int).toNat u.toNat).length = kq ∧ kq ≤ n0 ∧ i = 65 - (n0 - kq) ∧ L.length = 65) ∧ Aside0 (showI 8 u ++ L.drop i.toNat = showI 8 u0) ∧ Aside0 (Kd.R (Kd.int .u8) 76 w' w.heap.size (fun _ => True) (.slice (some ⟨gb, 0, none⟩) 65 65) L) ∧ Aside0 (Below w.heap.size w w'))
  case atStart =>
    have h1 := HU.out
    exact ⟨u0, 65, _, rfl, rfl, ⟨h1.1, h1.2, HN0.out.symm, Nat.le_refl _, by omega, by simp⟩, ⟨by simp⟩, HR, HB2⟩
  case round =>
    clear HR HB2
    obtain ⟨u, i, L, rfl, rfl, HI, HS, HR, HB2⟩ := hrel
    have h7 := HBb.out
    by_cases hlt : 8 ≤ u
    · have d4 : decide (8 ≤ u) = true := decide_eq_true hlt
      obtain ⟨h1, h2, h3, h4, h5, h6⟩ := HI.out
      cases gk with
      | zero => exact absurd h3 (by have := showL_pos (8 : Int).toNat u.toNat; omega)
      | succ k1 =>
      cases k1 with
      | zero => exact absurd (showL_one (by omega) h3) (by omega)
      | succ k2 =>
      obtain ⟨h8, h9⟩ := showL_more (show 2 ≤ (8 : Int).toNat by omega) h3
      have hbig := showI_big h7.1 h7.2.1 hlt
      have hdm := Int.mul_ediv_add_emod u 8
      have hm0 := Int.emod_nonneg u (show (8 : Int) ≠ 0 by omega)
      have hm1 := Int.emod_lt_of_pos u (show (0 : Int) < 8 by omega)
      have hq0 : 0 ≤ u / 8 := Int.ediv_nonneg h1 (by omega)
      have hq1 : u / 8 ≤ u := Int.ediv_le_self _ h1
      have hqn : (u / 8).toNat = u.toNat / (8 : Int).toNat := by
        obtain ⟨n, rfl⟩ := Int.eq_ofNat_of_zero_le h1
        rfl
      rw [← hqn] at h9
      obtain ⟨q, hq⟩ : ∃ q : Int, q = u / 8 := ⟨_, rfl⟩
      obtain ⟨r, hr⟩ : ∃ r : Int, r = u % 8 := ⟨_, rfl⟩
      rw [← hq] at hbig hdm hq0 hq1 h9
      rw [← hr] at hbig hdm hm0 hm1
      obtain ⟨j, hj⟩ : ∃ j : Int, j = i - 1 := ⟨_, rfl⟩
      have hj2 : 0 ≤ j ∧ j < 65 := by omega
      have e1 : wrap64 (i - 1) = j := by unfold wrap64; omega
      have e2 : bits .and .u64 u 7 = r := by rw [hr]; exact and_mask u 3 h1 (by omega)
      have e3 : u / 8 = q := hq.symm
      obtain ⟨hx, hf⟩ := Kd.R_celln 0 HR.out j (by omega) (by omega)
      have hdg := digits_idx r (by omega)
      have p1 : (0 ≤ r) = True := eq_true hm0
      have p2 : (r < 36) = True := eq_true (by omega)
      have p3 : (0 ≤ j) = True := eq_true hj2.1
      have p4 : (j < 65) = True := eq_true hj2.2
      have HJ := Aside0.mk hj
      have HJ2 := Aside0.mk hj2
      have HBIG := Aside0.mk hbig
      have HQ := Aside0.mk (show 0 ≤ q ∧ q < 4294967296 from ⟨hq0, by omega⟩)
      have H9 := Aside0.mk h9
      have HP2 := Aside0.mk (Kd.R_putn HR.out j (chI r))
      clear hj hj2 hlt h1 h2 h3 h4 h5 h6 h7 h8 h9 hbig hdm hm0 hm1 hq0 hq1 hqn hq hr
      go_wp2
      go_roundg (k2 + 1)
      case measure => omega
      case rel =>
        have hi := HI.out
        have hj := HJ.out
        have hj2 := HJ2.out
        refine ⟨q, j, L.set j.toNat (chI r), rfl, rfl, ⟨HQ.out.1, HQ.out.2, H9.out, by omega, by omega, by rw [List.length_set]; exact hi.2.2.2.2.2⟩, ⟨?_⟩, ⟨HP2.out⟩, ⟨below_set HB2.out GB.out⟩⟩
        rw [drop_set_at L j.toNat (chI r) (by omega), show j.toNat + 1 = i.toNat by omega, ← HS.out, HBIG.out, List.append_assoc]
        rfl
    · have d4 : decide (8 ≤ u) = false := decide_eq_false hlt
      obtain ⟨j, hj⟩ : ∃ j : Int, j = i - 1 := ⟨_, rfl⟩
      have hj2 : 0 ≤ j ∧ j < 65 := by have := HI.out; omega
      have e1 : wrap64 (i - 1) = j := by unfold wrap64; omega
      obtain ⟨hx, hf⟩ := Kd.R_celln 0 HR.out j (by omega) (by omega)
      have hu1 := HI.out.1
      have hdg := digits_idx u (by omega)
      have p1 : (0 ≤ u) = True := eq_true hu1
      have p2 : (u < 36) = True := eq_true (by omega)
      have p3 : (0 ≤ j) = True := eq_true hj2.1
      have p4 : (j < 65) = True := eq_true hj2.2
      have HJ := Aside0.mk hj
      have HJ2 := Aside0.mk hj2
      have HLT := Aside0.mk hlt
      clear hj hj2 hlt hu1 h7
      have HP2 := Aside0.mk (Kd.R_putn HR.out j (chI u))
      obtain ⟨j3, hj3⟩ : ∃ j3 : Int, j3 = j - 1 := ⟨_, rfl⟩
      have hj4 : 0 ≤ j3 ∧ j3 < 65 := by have := HI.out; have := HJ.out; omega
      have e5 : wrap64 (j - 1) = j3 := by have := HJ2.out; unfold wrap64; omega
      obtain ⟨hx3, hf3⟩ := Kd.R_celln 0 HP2.out j3 (by omega) (by omega)
      have HP3 := Aside0.mk (Kd.R_putn HP2.out j3 45)
      have p5 : (0 ≤ j3) = True := eq_true hj4.1
      have p6 : (j3 < 65) = True := eq_true hj4.2
      have HJ3 := Aside0.mk hj3
      have HJ4 := Aside0.mk hj4
      clear hj3 hj4
      have hsl : ∀ W, (Instr.sliceAt 76 (.pointer (some ⟨gb, 0, none⟩)) (some (.int .i64 j3)) none none).run Tryd.prog W = .ok (.slice (some ⟨gb, j3.toNat, none⟩) (65 - j3.toNat) (65 - j3.toNat)) W := fun W => slice_arr gb j3 HJ4.out W
      have hcv : (convert 52 9 (.slice (some ⟨gb, j3.toNat, none⟩) (65 - j3.toNat) (65 - j3.toNat))).run Tryd.prog ((wr.setCell ⟨gb, j.toNat, none⟩ (.int .u8 (chI u))).setCell ⟨gb, j3.toNat, none⟩ (.int .u8 45)) = .ok (.string (strOfNums (45 :: showI 8 u0))) ((wr.setCell ⟨gb, j.toNat, none⟩ (.int .u8 (chI u))).setCell ⟨gb, j3.toNat, none⟩ (.int .u8 45)) := by
        have hi := HI.out
        have hj := HJ.out
        have hj2 := HJ2.out
        have hj3 := HJ3.out
        have hj4 := HJ4.out
        have h7 := HBb.out
        have h := C_cut (Kd.R_reads' HP3.out).2.2 (c := 65) (by rw [List.length_set, List.length_set]; omega) j3.toNat (65 - j3.toNat) (by rw [List.length_set, List.length_set]; omega)
        rw [cutAt_own (show j3.toNat < 65 by omega)] at h
        have h' : Kd.C (Kd.int .u8) ((wr.setCell ⟨gb, j.toNat, none⟩ (.int .u8 (chI u))).setCell ⟨gb, j3.toNat, none⟩ (.int .u8 45)) (some ⟨gb, j3.toNat * 1, none⟩) (65 - j3.toNat) ((((L.set j.toNat (chI u)).set j3.toNat 45).drop j3.toNat).take (65 - j3.toNat)) := h
        rw [Nat.mul_one] at h'
        have h2 := Kd.C_string (src := 52) (dst := 9) (c := 65 - j3.toNat) Tryd.underlying52 Tryd.underlying5 Tryd.underlying9 h'
        rw [h2, List.take_of_length_le (by rw [List.length_drop, List.length_set, List.length_set]; omega), drop_set_at _ j3.toNat 45 (by rw [List.length_set]; omega), show j3.toNat + 1 = j.toNat by omega, drop_set_at L j.toNat (chI u) (by omega), show j.toNat + 1 = i.toNat by omega, ← HS.out, showI_small hi.1 (Int.lt_of_not_ge HLT.out) h7.2.1]
        rfl
      go_wp2
      go_ret2
      exact ⟨rfl, below_set (below_set HB2.out GB.out) GB.out⟩
set_option maxHeartbeats 4000000 in
set_option maxRecDepth 100000 in
theorem formatBits_p16 (u0 : Int) (hu : 0 ≤ u0 ∧ u0 < 4294967296) (w : World) (ht : Tabs w) :
    Calls Tryd.prog 42 #[.slice none 0 0, .int .u64 u0, .int .i64 16, .bool false, .bool false] w fun e w' => e = .returned (.tuple #[.slice none 0 0, .string (strOfNums (showI 16 u0))]) ∧ Below w.heap.size w w' := by
  have HP := Aside0.mk (show strconv_isPowerOfTwo.f 16 = some true by kernel_rfl)
  have HBb := Aside0.mk (show (2 : Int) ≤ 16 ∧ (16 : Int) ≤ 36 ∧ (16 : Int) ≠ 10 by decide)
  have HT := Aside0.mk ht
  have hb := HBb.out
  have HU := Aside0.mk hu
  have HB := Aside0.mk (Below.refl w.heap.size w)
  obtain ⟨Z, hZ⟩ : ∃ Z, Z = Z65 := ⟨_, rfl⟩
  have HZ := Aside0.mk hZ
  clear ht hb hu hZ
  go_enter Tryd.func42, Tryd.ntmps42
  go_wp2_with (first
    | ((with_reducible refine gate_dst (N := 12) rfl ?_); refine box_event ?hg (N := 12) ?hd (cs := Z.toArray) (t := 76) ?hr ?_; (case hd => rfl); (case hg => rfl); (case hr => have hZ2 := HZ.out; first | (go_simp; done) | (go_simp; rfl)); intro gb hg w2 hbox hb; have BK := Aside0.mk hbox; have GB := Aside0.mk (show w.heap.size ≤ gb from hg ▸ Nat.le_refl _); have HB1 := Aside0.mk hb; clear hbox hb hg HB)
    | (go_at_call 50; refine (strconv_isPowerOfTwo.calls _ _ _ HP.out).mono ?_; rintro e w3 ⟨rfl, hd⟩; have HB3 := Aside0.mk (below_step HB1.out hd.below); have BK3 := Aside0.mk (blk_below BK.out hd.below); clear hd BK HB1)
    | (go_at_call 51; refine (tz_16 _ (HT.out.below HB3.out)).mono ?_; rintro e w4 ⟨rfl, hd⟩; have HB2 := Aside0.mk (below_step HB3.out hd); have BK2 := Aside0.mk (blk_below BK3.out hd); clear hd BK3 HB3))
  have HR := Aside0.mk (show Kd.R (Kd.int .u8) 76 _ w.heap.size (fun _ => True) (.slice (some ⟨gb, 0, none⟩) 65 65) (List.replicate 65 (0 : Int)) from by
    have h := BK2.out
    rw [HZ.out] at h
    exact R_arr (L := List.replicate 65 (0 : Int)) h GB.out (by decide))
  obtain ⟨n0, hn0⟩ : ∃ n0, n0 = (showL (16 : Int).toNat u0.toNat).length := ⟨_, rfl⟩
  have hn1 : 1 ≤ n0 ∧ n0 ≤ 32 := by
    have h1 := HU.out
    have h2 := HBb.out
    rw [hn0]
    exact ⟨showL_pos _ _, showL_len (16 : Int).toNat (by omega) 31 u0.toNat (by omega)⟩
  have HN0 := Aside0.mk hn0
  clear BK2 hn0
  go_loopg [1, 13] n0 (fun kq v1 v13 w' => ∃ (u i : Int) (L : List Int), v1 = .int .u64 u ∧ v13 = .int .i64 i ∧ Aside0 (0 ≤ u ∧ u < 4294967296 ∧ (showL (16 : Int).toNat u.toNat).length = kq ∧ kq ≤ n0 ∧ i = 65 - (n0 - kq) ∧ L.length = 65) ∧ Aside0 (showI 16 u ++ L.drop i.toNat = showI 16 u0) ∧ Aside0 (Kd.R (Kd.int .u8) 76 w' w.heap.size (fun _ => True) (.slice (some ⟨gb, 0, none⟩) 65 65) L) ∧ Aside0 (Below w.heap.size w w'))
  case atStart =>
    have h1 := HU.out
    exact ⟨u0, 65, _, rfl, rfl, ⟨h1.1, h1.2, HN0.out.symm, Nat.le_refl _, by omega, by simp⟩, ⟨by simp⟩, HR, HB2⟩
  case round =>
    clear HR HB2
    obtain ⟨u, i, L, rfl, rfl, HI, HS, HR, HB2⟩ := hrel
    have h7 := HBb.out
    by_cases hlt : 16 ≤ u
    · have d4 : decide (16 ≤ u) = true := decide_eq_true hlt
      obtain ⟨h1, h2, h3, h4, h5, h6⟩ := HI.out
      cases gk with
      | zero => exact absurd h3 (by have := showL_pos (16 : Int).toNat u.toNat; omega)
      | succ k1 =>
      cases k1 with
      | zero => exact absurd (showL_one (by omega) h3) (by omega)
      | succ k2 =>
      obtain ⟨h8, h9⟩ := showL_more (show 2 ≤ (16 : Int).toNat by omega) h3
      have hbig := showI_big h7.1 h7.2.1 hlt
      have hdm := Int.mul_ediv_add_emod u 16
      have hm0 := Int.emod_nonneg u (show (16 : Int) ≠ 0 by omega)
      have hm1 := Int.emod_lt_of_pos u (show (0 : Int) < 16 by omega)
      have hq0 : 0 ≤ u / 16 := Int.ediv_nonneg h1 (by omega)
      have hq1 : u / 16 ≤ u := Int.ediv_le_self _ h1
      have hqn : (u / 16).toNat = u.toNat / (16 : Int).toNat := by
        obtain ⟨n, rfl⟩ := Int.eq_ofNat_of_zero_le h1
        rfl
      rw [← hqn] at h9
      obtain ⟨q, hq⟩ : ∃ q : Int, q = u / 16 := ⟨_, rfl⟩
      obtain ⟨r, hr⟩ : ∃ r : Int, r = u % 16 := ⟨_, rfl⟩
      rw [← hq] at hbig hdm hq0 hq1 h9
      rw [← hr] at hbig hdm hm0 hm1
      obtain ⟨j, hj⟩ : ∃ j : Int, j = i - 1 := ⟨_, rfl⟩
      have hj2 : 0 ≤ j ∧ j < 65 := by omega
      have e1 : wrap64 (i - 1) = j := by unfold wrap64; omega
      have e2 : bits .and .u64 u 15 = r := by rw [hr]; exact and_mask u 4 h1 (by omega)
      have e3 : u / 16 = q := hq.symm
      obtain ⟨hx, hf⟩ := Kd.R_celln 0 HR.out j (by omega) (by omega)
      have hdg := digits_idx r (by omega)
      have p1 : (0 ≤ r) = True := eq_true hm0
      have p2 : (r < 36) = True := eq_true (by omega)
      have p3 : (0 ≤ j) = True := eq_true hj2.1
      have p4 : (j < 65) = True := eq_true hj2.2
      have HJ := Aside0.mk hj
      have HJ2 := Aside0.mk hj2
      have HBIG := Aside0.mk hbig
      have HQ := Aside0.mk (show 0 ≤ q ∧ q < 4294967296 from ⟨hq0, by omega⟩)
      have H9 := Aside0.mk h9
      have HP2 := Aside0.mk (Kd.R_putn HR.out j (chI r))
      clear hj hj2 hlt h1 h2 h3 h4 h5 h6 h7 h8 h9 hbig hdm hm0 hm1 hq0 hq1 hqn hq hr
      go_wp2
      go_roundg (k2 + 1)
      case measure => omega
      case rel =>
        have hi := HI.out
        have hj := HJ.out
        have hj2 := HJ2.out
        refine ⟨q, j, L.set j.toNat (chI r), rfl, rfl, ⟨HQ.out.1, HQ.out.2, H9.out, by omega, by omega, by rw [List.length_set]; exact hi.2.2.2.2.2⟩, ⟨?_⟩, ⟨HP2.out⟩, ⟨below_set HB2.out GB.out⟩⟩
        rw [drop_set_at L j.toNat (chI r) (by omega), show j.toNat + 1 = i.toNat by omega, ← HS.out, HBIG.out, List.append_assoc]
        rfl
    · have d4 : decide (16 ≤ u) = false := decide_eq_false hlt
      obtain ⟨j, hj⟩ : ∃ j : Int, j = i - 1 := ⟨_, rfl⟩
      have hj2 : 0 ≤ j ∧ j < 65 := by have := HI.out; omega
      have e1 : wrap64 (i - 1) = j := by unfold wrap64; omega
      obtain ⟨hx, hf⟩ := Kd.R_celln 0 HR.out j (by omega) (by omega)
      have hu1 := HI.out.1
      have hdg := digits_idx u (by omega)
      have p1 : (0 ≤ u) = True := eq_true hu1
      have p2 : (u < 36) = True := eq_true (by omega)
      have p3 : (0 ≤ j) = True := eq_true hj2.1
      have p4 : (j < 65) = True := eq_true hj2.2
      have HJ := Aside0.mk hj
      have HJ2 := Aside0.mk hj2
      have HLT := Aside0.mk hlt
      clear hj hj2 hlt hu1 h7
      have HP2 := Aside0.mk (Kd.R_putn HR.out j (chI u))
      have hsl : ∀ W, (Instr.sliceAt 76 (.pointer (some ⟨gb, 0, none⟩)) (some (.int .i64 j)) none none).run Tryd.prog W = .ok (.slice (some ⟨gb, j.toNat, none⟩) (65 - j.toNat) (65 - j.toNat)) W := fun W => slice_arr gb j HJ2.out W
      have hcv : (convert 52 9 (.slice (some ⟨gb, j.toNat, none⟩) (65 - j.toNat) (65 - j.toNat))).run Tryd.prog (wr.setCell ⟨gb, j.toNat, none⟩ (.int .u8 (chI u))) = .ok (.string (strOfNums (showI 16 u0))) (wr.setCell ⟨gb, j.toNat, none⟩ (.int .u8 (chI u))) := by
        have hi := HI.out
        have hj := HJ.out
        have hj2 := HJ2.out
        have h7 := HBb.out
        have h := C_cut (Kd.R_reads' HP2.out).2.2 (c := 65) (by rw [List.length_set]; omega) j.toNat (65 - j.toNat) (by rw [List.length_set]; omega)
        rw [cutAt_own (show j.toNat < 65 by omega)] at h
        have h' : Kd.C (Kd.int .u8) (wr.setCell ⟨gb, j.toNat, none⟩ (.int .u8 (chI u))) (some ⟨gb, j.toNat * 1, none⟩) (65 - j.toNat) (((L.set j.toNat (chI u)).drop j.toNat).take (65 - j.toNat)) := h
        rw [Nat.mul_one] at h'
        have h2 := Kd.C_string (src := 52) (dst := 9) (c := 65 - j.toNat) Tryd.underlying52 Tryd.underlying5 Tryd.underlying9 h'
        rw [h2, List.take_of_length_le (by rw [List.length_drop, List.length_set]; omega), drop_set_at L j.toNat (chI u) (by omega), show j.toNat + 1 = i.toNat by omega, ← HS.out, showI_small hi.1 (Int.lt_of_not_ge HLT.out) h7.2.1]
        rfl
      go_wp2
      go_ret2
      exact ⟨rfl, below_set HB2.out GB.out⟩
set_option maxHeartbeats 4000000 in
set_option maxRecDepth 100000 in
theorem formatBits_p16_neg (u0 : Int) (hu : 0 ≤ u0 ∧ u0 < 4294967296) (U : Int) (hU : IntKind.u64.wrap (-U) = u0) (w : World) (ht : Tabs w) :
    Calls Tryd.prog 42 #[.slice none 0 0, .int .u64 U, .int .i64 16, .bool true, .bool false] w fun e w' => e = .returned (.tuple #[.slice none 0 0, .string (strOfNums (45 :: showI 16 u0))]) ∧ Below w.heap.size w w' := by
  have HP := Aside0.mk (show strconv_isPowerOfTwo.f 16 = some true by kernel_rfl)
  have HBb := Aside0.mk (show (2 : Int) ≤ 16 ∧ (16 : Int) ≤ 36 ∧ (16 : Int) ≠ 10 by decide)
  have HT := Aside0.mk ht
  have hb := HBb.out
  have HU := Aside0.mk hu
  have HB := Aside0.mk (Below.refl w.heap.size w)
  obtain ⟨Z, hZ⟩ : ∃ Z, Z = Z65 := ⟨_, rfl⟩
  have HZ := Aside0.mk hZ
  clear ht hb hu hZ
  go_enter Tryd.func42, Tryd.ntmps42
  go_wp2_with (first
    | ((with_reducible refine gate_dst (N := 12) rfl ?_); refine box_event ?hg (N := 12) ?hd (cs := Z.toArray) (t := 76) ?hr ?_; (case hd => rfl); (case hg => rfl); (case hr => have hZ2 := HZ.out; first | (go_simp; done) | (go_simp; rfl)); intro gb hg w2 hbox hb; have BK := Aside0.mk hbox; have GB := Aside0.mk (show w.heap.size ≤ gb from hg ▸ Nat.le_refl _); have HB1 := Aside0.mk hb; clear hbox hb hg HB)
    | (go_at_call 50; refine (strconv_isPowerOfTwo.calls _ _ _ HP.out).mono ?_; rintro e w3 ⟨rfl, hd⟩; have HB3 := Aside0.mk (below_step HB1.out hd.below); have BK3 := Aside0.mk (blk_below BK.out hd.below); clear hd BK HB1)
    | (go_at_call 51; refine (tz_16 _ (HT.out.below HB3.out)).mono ?_; rintro e w4 ⟨rfl, hd⟩; have HB2 := Aside0.mk (below_step HB3.out hd); have BK2 := Aside0.mk (blk_below BK3.out hd); clear hd BK3 HB3))
  have HR := Aside0.mk (show Kd.R (Kd.int .u8) 76 _ w.heap.size (fun _ => True) (.slice (some ⟨gb, 0, none⟩) 65 65) (List.replicate 65 (0 : Int)) from by
    have h := BK2.out
    rw [HZ.out] at h
    exact R_arr (L := List.replicate 65 (0 : Int)) h GB.out (by decide))
  obtain ⟨n0, hn0⟩ : ∃ n0, n0 = (showL (16 : Int).toNat u0.toNat).length := ⟨_, rfl⟩
  have hn1 : 1 ≤ n0 ∧ n0 ≤ 32 := by
    have h1 := HU.out
    have h2 := HBb.out
    rw [hn0]
    exact ⟨showL_pos _ _, showL_len (16 : Int).toNat (by omega) 31 u0.toNat (by omega)⟩
  have HN0 := Aside0.mk hn0
  clear BK2 hn0
  go_loopg [1, 13] n0 (fun kq v1 v13 w' => ∃ (u i : Int) (L : List Int), v1 = .int .u64 u ∧ v13 = .int .i64 i ∧ Aside0 (0 ≤ u ∧ u < 4294967296 ∧ (showL (16 : Int).toNat u.toNat).length = kq ∧ kq ≤ n0 ∧ i = 65 - (n0 - kq) ∧ L.length = 65) ∧ Aside0 (showI 16 u ++ L.drop i.toNat = showI 16 u0) ∧ Aside0 (Kd.R (Kd.int .u8) 76 w' w.heap.size (fun _ => True) (.slice (some ⟨gb, 0, none⟩) 65 65) L) ∧ Aside0 (Below w.heap.size w w'))
  case atStart =>
    have h1 := HU.out
    exact ⟨u0, 65, _, rfl, rfl, ⟨h1.1, h1.2, HN0.out.symm, Nat.le_refl _, by omega, by simp⟩, ⟨by simp⟩, HR, HB2⟩
  case round =>
    clear HR HB2
    obtain ⟨u, i, L, rfl, rfl, HI, HS, HR, HB2⟩ := hrel
    have h7 := HBb.out
    by_cases hlt : 16 ≤ u
    · have d4 : decide (16 ≤ u) = true := decide_eq_true hlt
      obtain ⟨h1, h2, h3, h4, h5, h6⟩ := HI.out
      cases gk with
      | zero => exact absurd h3 (by have := showL_pos (16 : Int).toNat u.toNat; omega)
      | succ k1 =>
      cases k1 with
      | zero => exact absurd (showL_one (by omega) h3) (by omega)
      | succ k2 =>
      obtain ⟨h8, h9⟩ := showL_more (show 2 ≤ (16 : Int).toNat by omega) h3
      have hbig := showI_big h7.1 h7.2.1 hlt
      have hdm := Int.mul_ediv_add_emod u 16
      have hm0 := Int.emod_nonneg u (show (16 : Int) ≠ 0 by omega)
      have hm1 := Int.emod_lt_of_pos u (show (0 : Int) < 16 by omega)
      have hq0 : 0 ≤ u / 16 := Int.ediv_nonneg h1 (by omega)
      have hq1 : u / 16 ≤ u := Int.ediv_le_self _ h1
      have hqn : (u / 16).toNat = u.toNat / (16 : Int).toNat := by
        obtain ⟨n, rfl⟩ := Int.eq_ofNat_of_zero_le h1
        rfl
      rw [← hqn] at h9
      obtain ⟨q, hq⟩ : ∃ q : Int, q = u / 16 := ⟨_, rfl⟩
      obtain ⟨r, hr⟩ : ∃ r : Int, r = u % 16 := ⟨_, rfl⟩
      rw [← hq] at hbig hdm hq0 hq1 h9
      rw [← hr] at hbig hdm hm0 hm1
      obtain ⟨j, hj⟩ : ∃ j : Int, j = i - 1 := ⟨_, rfl⟩
      have hj2 : 0 ≤ j ∧ j < 65 := by omega
      have e1 : wrap64 (i - 1) = j := by unfold wrap64; omega
      have e2 : bits .and .u64 u 15 = r := by rw [hr]; exact and_mask u 4 h1 (by omega)
      have e3 : u / 16 = q := hq.symm
      obtain ⟨hx, hf⟩ := Kd.R_celln 0 HR.out j (by omega) (by omega)
      have hdg := digits_idx r (by omega)
      have p1 : (0 ≤ r) = True := eq_true hm0
      have p2 : (r < 36) = True := eq_true (by omega)
      have p3 : (0 ≤ j) = True := eq_true hj2.1
      have p4 : (j < 65) = True := eq_true hj2.2
      have HJ := Aside0.mk hj
      have HJ2 := Aside0.mk hj2
      have HBIG := Aside0.mk hbig
      have HQ := Aside0.mk (show 0 ≤ q ∧ q < 4294967296 from ⟨hq0, by omega⟩)
      have H9 := Aside0.mk h9
      have HP2 := Aside0.mk (Kd.R_putn HR.out j (chI r))
      clear hj hj2 hlt h1 h2 h3 h4 h5 h6 h7 h8 h9 hbig hdm hm0 hm1 hq0 hq1 hqn hq hr
      go_wp2
      go_roundg (k2 + 1)
      case measure => omega
      case rel =>
        have hi := HI.out
        have hj := HJ.out
        have hj2 := HJ2.out
        refine ⟨q, j, L.set j.toNat (chI r), rfl, rfl, ⟨HQ.out.1, HQ.out.2, H9.out, by omega, by omega, by rw [List.length_set]; exact hi.2.2.2.2.2⟩, ⟨?_⟩, ⟨HP2.out⟩, ⟨below_set HB2.out GB.out⟩⟩
        rw [drop_set_at L j.toNat (chI r) (by omega), show j.toNat + 1 = i.toNat by omega, ← HS.out, HBIG.out, List.append_assoc]
        rfl
    · have d4 : decide (16 ≤ u) = false := decide_eq_false hlt
      obtain ⟨j, hj⟩ : ∃ j : Int, j = i - 1 := ⟨_, rfl⟩
      have hj2 : 0 ≤ j ∧ j < 65 := by have := HI.out; omega
      have e1 : wrap64 (i - 1) = j := by unfold wrap64; omega
      obtain ⟨hx, hf⟩ := Kd.R_celln 0 HR.out j (by omega) (by omega)
      have hu1 := HI.out.1
      have hdg := digits_idx u (by omega)
      have p1 : (0 ≤ u) = True := eq_true hu1
      have p2 : (u < 36) = True := eq_true (by omega)
      have p3 : (0 ≤ j) = True := eq_true hj2.1
      have p4 : (j < 65) = True := eq_true hj2.2
      have HJ := Aside0.mk hj
      have HJ2 := Aside0.mk hj2
      have HLT := Aside0.mk hlt
      clear hj hj2 hlt hu1 h7
      have HP2 := Aside0.mk (Kd.R_putn HR.out j (chI u))
      obtain ⟨j3, hj3⟩ : ∃ j3 : Int, j3 = j - 1 := ⟨_, rfl⟩
      have hj4 : 0 ≤ j3 ∧ j3 < 65 := by have := HI.out; have := HJ.out; omega
      have e5 : wrap64 (j - 1) = j3 := by have := HJ2.out; unfold wrap64; omega
      obtain ⟨hx3, hf3⟩ := Kd.R_celln 0 HP2.out j3 (by omega) (by omega)
      have HP3 := Aside0.mk (Kd.R_putn HP2.out j3 45)
      have p5 : (0 ≤ j3) = True := eq_true hj4.1
      have p6 : (j3 < 65) = True := eq_true hj4.2
      have HJ3 := Aside0.mk hj3
      have HJ4 := Aside0.mk hj4
      clear hj3 hj4
      have hsl : ∀ W, (Instr.sliceAt 76 (.pointer (some ⟨gb, 0, none⟩)) (some (.int .i64 j3)) none none).run Tryd.prog W = .ok (.slice (some ⟨gb, j3.toNat, none⟩) (65 - j3.toNat) (65 - j3.toNat)) W := fun W => slice_arr gb j3 HJ4.out W
      have hcv : (convert 52 9 (.slice (some ⟨gb, j3.toNat, none⟩) (65 - j3.toNat) (65 - j3.toNat))).run Tryd.prog ((wr.setCell ⟨gb, j.toNat, none⟩ (.int .u8 (chI u))).setCell ⟨gb, j3.toNat, none⟩ (.int .u8 45)) = .ok (.string (strOfNums (45 :: showI 16 u0))) ((wr.setCell ⟨gb, j.toNat, none⟩ (.int .u8 (chI u))).setCell ⟨gb, j3.toNat, none⟩ (.int .u8 45)) := by
        have hi := HI.out
        have hj := HJ.out
        have hj2 := HJ2.out
        have hj3 := HJ3.out
        have hj4 := HJ4.out
        have h7 := HBb.out
        have h := C_cut (Kd.R_reads' HP3.out).2.2 (c := 65) (by rw [List.length_set, List.length_set]; omega) j3.toNat (65 - j3.toNat) (by rw [List.length_set, List.length_set]; omega)
        rw [cutAt_own (show j3.toNat < 65 by omega)] at h
        have h' : Kd.C (Kd.int .u8) ((wr.setCell ⟨gb, j.toNat, none⟩ (.int .u8 (chI u))).setCell ⟨gb, j3.toNat, none⟩ (.int .u8 45)) (some ⟨gb, j3.toNat * 1, none⟩) (65 - j3.toNat) ((((L.set j.toNat (chI u)).set j3.toNat 45).drop j3.toNat).take (65 - j3.toNat)) := h
        rw [Nat.mul_one] at h'
        have h2 := Kd.C_string (src := 52) (dst := 9) (c := 65 - j3.toNat) Tryd.underlying52 Tryd.underlying5 Tryd.underlying9 h'
        rw [h2, List.take_of_length_le (by rw [List.length_drop, List.length_set, List.length_set]; omega), drop_set_at _ j3.toNat 45 (by rw [List.length_set]; omega), show j3.toNat + 1 = j.toNat by omega, drop_set_at L j.toNat (chI u) (by omega), show j.toNat + 1 = i.toNat by omega, ← HS.out, showI_small hi.1 (Int.lt_of_not_ge HLT.out) h7.2.1]
        rfl
      go_wp2
      go_ret2
      exact ⟨rfl, below_set (below_set HB2.out GB.out) GB.out⟩
set_option maxHeartbeats 4000000 in
set_option maxRecDepth 100000 in
theorem formatBits_p32 (u0 : Int) (hu : 0 ≤ u0 ∧ u0 < 4294967296) (w : World) (ht : Tabs w) :
    Calls Tryd.prog 42 #[.slice none 0 0, .int .u64 u0, .int .i64 32, .bool false, .bool false] w fun e w' => e = .returned (.tuple #[.slice none 0 0, .string (strOfNums (showI 32 u0))]) ∧ Below w.heap.size w w' := by
  have HP := Aside0.mk (show strconv_isPowerOfTwo.f 32 = some true by kernel_rfl)
  have HBb := Aside0.mk (show (2 : Int) ≤ 32 ∧ (32 : Int) ≤ 36 ∧ (32 : Int) ≠ 10 by decide)
  have HT := Aside0.mk ht
  have hb := HBb.out
  have HU := Aside0.mk hu
  have HB := Aside0.mk (Below.refl w.heap.size w)
  obtain ⟨Z, hZ⟩ : ∃ Z, Z = Z65 := ⟨_, rfl⟩
  have HZ := Aside0.mk hZ
  clear ht hb hu hZ
  go_enter Tryd.func42, Tryd.ntmps42
  go_wp2_with (first
    | ((with_reducible refine gate_dst (N := 12) rfl ?_); refine box_event ?hg (N := 12) ?hd (cs := Z.toArray) (t := 76) ?hr ?_; (case hd => rfl); (case hg => rfl); (case hr => have hZ2 := HZ.out; first | (go_simp; done) | (go_simp; rfl)); intro gb hg w2 hbox hb; have BK := Aside0.mk hbox; have GB := Aside0.mk (show w.heap.size ≤ gb from hg ▸ Nat.le_refl _); have HB1 := Aside0.mk hb; clear hbox hb hg HB)
    | (go_at_call 50; refine (strconv_isPowerOfTwo.calls _ _ _ HP.out).mono ?_; rintro e w3 ⟨rfl, hd⟩; have HB3 := Aside0.mk (below_step HB1.out hd.below); have BK3 := Aside0.mk (blk_below BK.out hd.below); clear hd BK HB1)
    | (go_at_call 51; refine (tz_32 _ (HT.out.below HB3.out)).mono ?_; rintro e w4 ⟨rfl, hd⟩; have HB2 := Aside0.mk (below_step HB3.out hd); have BK2 := Aside0.mk (blk_below BK3.out hd); clear hd BK3 HB3))
  have HR := Aside0.mk (show Kd.R (Kd.int .u8) 76 _ w.heap.size (fun _ => True) (.slice (some ⟨gb, 0, none⟩) 65 65) (List.replicate 65 (0 : Int)) from by
    have h := BK2.out
    rw [HZ.out] at h
    exact R_arr (L := List.replicate 65 (0 : Int)) h GB.out (by decide))
  obtain ⟨n0, hn0⟩ : ∃ n0, n0 = (showL (32 : Int).toNat u0.toNat).length := ⟨_, rfl⟩
  have hn1 : 1 ≤ n0 ∧ n0 ≤ 32 := by
    have h1 := HU.out
    have h2 := HBb.out
    rw [hn0]
    exact ⟨showL_pos _ _, showL_len (32 : Int).toNat (by omega) 31 u0.toNat (by omega)⟩
  have HN0 := Aside0.mk hn0
  clear BK2 hn0
  go_loopg [1, 13] n0 (fun kq v1 v13 w' => ∃ (u i : Int) (L : List Int), v1 = .int .u64 u ∧ v13 = .int .i64 i ∧ Aside0 (0 ≤ u ∧ u < 4294967296 ∧ (showL (32 : Int).toNat u.toNat).length = kq ∧ kq ≤ n0 ∧ i = 65 - (n0 - kq) ∧ L.length = 65) ∧ Aside0 (showI 32 u ++ L.drop i.toNat = showI 32 u0) ∧ Aside0 (Kd.R (Kd.int .u8) 76 w' w.heap.size (fun _ => True) (.slice (some ⟨gb, 0, none⟩) 65 65) L) ∧ Aside0 (Below w.heap.size w w'))
  case atStart =>
    have h1 := HU.out
    exact ⟨u0, 65, _, rfl, rfl, ⟨h1.1, h1.2, HN0.out.symm, Nat.le_refl _, by omega, by simp⟩, ⟨by simp⟩, HR, HB2⟩
  case round =>
    clear HR HB2
    obtain ⟨u, i, L, rfl, rfl, HI, HS, HR, HB2⟩ := hrel
    have h7 := HBb.out
    by_cases hlt : 32 ≤ u
    · have d4 : decide (32 ≤ u) = true := decide_eq_true hlt
      obtain ⟨h1, h2, h3, h4, h5, h6⟩ := HI.out
      cases gk with
      | zero => exact absurd h3 (by have := showL_pos (32 : Int).toNat u.toNat; omega)
      | succ k1 =>
      cases k1 with
      | zero => exact absurd (showL_one (by omega) h3) (by omega)
      | succ k2 =>
      obtain ⟨h8, h9⟩ := showL_more (show 2 ≤ (32 : Int).toNat by omega) h3
      have hbig := showI_big h7.1 h7.2.1 hlt
      have hdm := Int.mul_ediv_add_emod u 32
      have hm0 := Int.emod_nonneg u (show (32 : Int) ≠ 0 by omega)
      have hm1 := Int.emod_lt_of_pos u (show (0 : Int) < 32 by omega)
      have hq0 : 0 ≤ u / 32 := Int.ediv_nonneg h1 (by omega)
      have hq1 : u / 32 ≤ u := Int.ediv_le_self _ h1
      have hqn : (u / 32).toNat = u.toNat / (32 : Int).toNat := by
        obtain ⟨n, rfl⟩ := Int.eq_ofNat_of_zero_le h1
        rfl
      rw [← hqn] at h9
      obtain ⟨q, hq⟩ : ∃ q : Int, q = u / 32 := ⟨_, rfl⟩
      obtain ⟨r, hr⟩ : ∃ r : Int, r = u % 32 := ⟨_, rfl⟩
      rw [← hq] at hbig hdm hq0 hq1 h9
      rw [← hr] at hbig hdm hm0 hm1
      obtain ⟨j, hj⟩ : ∃ j : Int, j = i - 1 := ⟨_, rfl⟩
      have hj2 : 0 ≤ j ∧ j < 65 := by omega
      have e1 : wrap64 (i - 1) = j := by unfold wrap64; omega
      have e2 : bits .and .u64 u 31 = r := by rw [hr]; exact and_mask u 5 h1 (by omega)
      have e3 : u / 32 = q := hq.symm
      obtain ⟨hx, hf⟩ := Kd.R_celln 0 HR.out j (by omega) (by omega)
      have hdg := digits_idx r (by omega)
      have p1 : (0 ≤ r) = True := eq_true hm0
      have p2 : (r < 36) = True := eq_true (by omega)
      have p3 : (0 ≤ j) = True := eq_true hj2.1
      have p4 : (j < 65) = True := eq_true hj2.2
      have HJ := Aside0.mk hj
      have HJ2 := Aside0.mk hj2
      have HBIG := Aside0.mk hbig
      have HQ := Aside0.mk (show 0 ≤ q ∧ q < 4294967296 from ⟨hq0, by omega⟩)
      have H9 := Aside0.mk h9
      have HP2 := Aside0.mk (Kd.R_putn HR.out j (chI r))
      clear hj hj2 hlt h1 h2 h3 h4 h5 h6 h7 h8 h9 hbig hdm hm0 hm1 hq0 hq1 hqn hq hr
      go_wp2
      go_roundg (k2 + 1)
      case measure => omega
      case rel =>
        have hi := HI.out
        have hj := HJ.out
        have hj2 := HJ2.out
        refine ⟨q, j, L.set j.toNat (chI r), rfl, rfl, ⟨HQ.out.1, HQ.out.2, H9.out, by omega, by omega, by rw [List.length_set]; exact hi.2.2.2.2.2⟩, ⟨?_⟩, ⟨HP2.out⟩, ⟨below_set HB2.out GB.out⟩⟩
        rw [drop_set_at L j.toNat (chI r) (by omega), show j.toNat + 1 = i.toNat by omega, ← HS.out, HBIG.out, List.append_assoc]
        rfl
    · have d4 : decide (32 ≤ u) = false := decide_eq_false hlt
      obtain ⟨j, hj⟩ : ∃ j : Int, j = i - 1 := ⟨_, rfl⟩
      have hj2 : 0 ≤ j ∧ j < 65 := by have := HI.out; omega
      have e1 : wrap64 (i - 1) = j := by unfold wrap64; omega
      obtain ⟨hx, hf⟩ := Kd.R_celln 0 HR.out j (by omega) (by omega)
      have hu1 := HI.out.1
      have hdg := digits_idx u (by omega)
      have p1 : (0 ≤ u) = True := eq_true hu1
      have p2 : (u < 36) = True := eq_true (by omega)
      have p3 : (0 ≤ j) = True := eq_true hj2.1
      have p4 : (j < 65) = True := eq_true hj2.2
      have HJ := Aside0.mk hj
      have HJ2 := Aside0.mk hj2
      have HLT := Aside0.mk hlt
      clear hj hj2 hlt hu1 h7
      have HP2 := Aside0.mk (Kd.R_putn HR.out j (chI u))
      have hsl : ∀ W, (Instr.sliceAt 76 (.pointer (some ⟨gb, 0, none⟩)) (some (.int .i64 j)) none none).run Tryd.prog W = .ok (.slice (some ⟨gb, j.toNat, none⟩) (65 - j.toNat) (65 - j.toNat)) W := fun W => slice_arr gb j HJ2.out W
      have hcv : (convert 52 9 (.slice (some ⟨gb, j.toNat, none⟩) (65 - j.toNat) (65 - j.toNat))).run Tryd.prog (wr.setCell ⟨gb, j.toNat, none⟩ (.int .u8 (chI u))) = .ok (.string (strOfNums (showI 32 u0))) (wr.setCell ⟨gb, j.toNat, none⟩ (.int .u8 (chI u))) := by
        have hi := HI.out
        have hj := HJ.out
        have hj2 := HJ2.out
        have h7 := HBb.out
        have h := C_cut (Kd.R_reads' HP2.out).2.2 (c := 65) (by rw [List.length_set]; omega) j.toNat (65 - j.toNat) (by rw [List.length_set]; omega)
        rw [cutAt_own (show j.toNat < 65 by omega)] at h
        have h' : Kd.C (Kd.int .u8) (wr.setCell ⟨gb, j.toNat, none⟩ (.int .u8 (chI u))) (some ⟨gb, j.toNat * 1, none⟩) (65 - j.toNat) (((L.set j.toNat (chI u)).drop j.toNat).take (65 - j.toNat)) := h
        rw [Nat.mul_one] at h'
        have h2 := Kd.C_string (src := 52) (dst := 9) (c := 65 - j.toNat) Tryd.underlying52 Tryd.underlying5 Tryd.underlying9 h'
        rw [h2, List.take_of_length_le (by rw [List.length_drop, List.length_set]; omega), drop_set_at L j.toNat (chI u) (by omega), show j.toNat + 1 = i.toNat by omega, ← HS.out, showI_small hi.1 (Int.lt_of_not_ge HLT.out) h7.2.1]
        rfl
      go_wp2
      go_ret2
      exact ⟨rfl, below_set HB2.out GB.out⟩
set_option maxHeartbeats 4000000 in
set_option maxRecDepth 100000 in
theorem formatBits_p32_neg (u0 : Int) (hu : 0 ≤ u0 ∧ u0 < 4294967296) (U : Int) (hU : IntKind.u64.wrap (-U) = u0) (w : World) (ht : Tabs w) :
    Calls Tryd.prog 42 #[.slice none 0 0, .int .u64 U, .int .i64 32, .bool true, .bool false] w fun e w' => e = .returned (.tuple #[.slice none 0 0, .string (strOfNums (45 :: showI 32 u0))]) ∧ Below w.heap.size w w' := by
  have HP := Aside0.mk (show strconv_isPowerOfTwo.f 32 = some true by kernel_rfl)
  have HBb := Aside0.mk (show (2 : Int) ≤ 32 ∧ (32 : Int) ≤ 36 ∧ (32 : Int) ≠ 10 by decide)
  have HT := Aside0.mk ht
  have hb := HBb.out
  have HU := Aside0.mk hu
  have HB := Aside0.mk (Below.refl w.heap.size w)
  obtain ⟨Z, hZ⟩ : ∃ Z, Z = Z65 := ⟨_, rfl⟩
  have HZ := Aside0.mk hZ
  clear ht hb hu hZ
  go_enter Tryd.func42, Tryd.ntmps42
  go_wp2_with (first
    | ((with_reducible refine gate_dst (N := 12) rfl ?_); refine box_event ?hg (N := 12) ?hd (cs := Z.toArray) (t := 76) ?hr ?_; (case hd => rfl); (case hg => rfl); (case hr => have hZ2 := HZ.out; first | (go_simp; done) | (go_simp; rfl)); intro gb hg w2 hbox hb; have BK := Aside0.mk hbox; have GB := Aside0.mk (show w.heap.size ≤ gb from hg ▸ Nat.le_refl _); have HB1 := Aside0.mk hb; clear hbox hb hg HB)
    | (go_at_call 50; refine (strconv_isPowerOfTwo.calls _ _ _ HP.out).mono ?_; rintro e w3 ⟨rfl, hd⟩; have HB3 := Aside0.mk (below_step HB1.out hd.below); have BK3 := Aside0.mk (blk_below BK.out hd.below); clear hd BK HB1)
    | (go_at_call 51; refine (tz_32 _ (HT.out.below HB3.out)).mono ?_; rintro e w4 ⟨rfl, hd⟩; have HB2 := Aside0.mk (below_step HB3.out hd); have BK2 := Aside0.mk (blk_below BK3.out hd); clear hd BK3 HB3))
  have HR := Aside0.mk (show Kd.R (Kd.int .u8) 76 _ w.heap.size (fun _ => True) (.slice (some ⟨gb, 0, none⟩) 65 65) (List.replicate 65 (0 : Int)) from by
    have h := BK2.out
    rw [HZ.out] at h
    exact R_arr (L := List.replicate 65 (0 : Int)) h GB.out (by decide))
  obtain ⟨n0, hn0⟩ : ∃ n0, n0 = (showL (32 : Int).toNat u0.toNat).length := ⟨_, rfl⟩
  have hn1 : 1 ≤ n0 ∧ n0 ≤ 32 := by
    have h1 := HU.out
    have h2 := HBb.out
    rw [hn0]
    exact ⟨showL_pos _ _, showL_len (32 : Int).toNat (by omega) 31 u0.toNat (by omega)⟩
  have HN0 := Aside0.mk hn0
  clear BK2 hn0
  go_loopg [1, 13] n0 (fun kq v1 v13 w' => ∃ (u i : Int) (L : List Int), v1 = .int .u64 u ∧ v13 = .int .i64 i ∧ Aside0 (0 ≤ u ∧ u < 4294967296 ∧ (showL (32 : Int).toNat u.toNat).length = kq ∧ kq ≤ n0 ∧ i = 65 - (n0 - kq) ∧ L.length = 65) ∧ Aside0 (showI 32 u ++ L.drop i.toNat = showI 32 u0) ∧ Aside0 (Kd.R (Kd.int .u8) 76 w' w.heap.size (fun _ => True) (.slice (some ⟨gb, 0, none⟩) 65 65) L) ∧ Aside0 (Below w.heap.size w w'))
  case atStart =>
    have h1 := HU.out
    exact ⟨u0, 65, _, rfl, rfl, ⟨h1.1, h1.2, HN0.out.symm, Nat.le_refl _, by omega, by simp⟩, ⟨by simp⟩, HR, HB2⟩
  case round =>
    clear HR HB2
    obtain ⟨u, i, L, rfl, rfl, HI, HS, HR, HB2⟩ := hrel
    have h7 := HBb.out
    by_cases hlt : 32 ≤ u
    · have d4 : decide (32 ≤ u) = true := decide_eq_true hlt
      obtain ⟨h1, h2, h3, h4, h5, h6⟩ := HI.out
      cases gk with
      | zero => exact absurd h3 (by have := showL_pos (32 : Int).toNat u.toNat; omega)
      | succ k1 =>
      cases k1 with
      | zero => exact absurd (showL_one (by omega) h3) (by omega)
      | succ k2 =>
      obtain ⟨h8, h9⟩ := showL_more (show 2 ≤ (32 : Int).toNat by omega) h3
      have hbig := showI_big h7.1 h7.2.1 hlt
      have hdm := Int.mul_ediv_add_emod u 32
      have hm0 := Int.emod_nonneg u (show (32 : Int) ≠ 0 by omega)
      have hm1 := Int.emod_lt_of_pos u (show (0 : Int) < 32 by omega)
      have hq0 : 0 ≤ u / 32 := Int.ediv_nonneg h1 (by omega)
      have hq1 : u / 32 ≤ u := Int.ediv_le_self _ h1
      have hqn : (u / 32).toNat = u.toNat / (32 : Int).toNat := by
        obtain ⟨n, rfl⟩ := Int.eq_ofNat_of_zero_le h1
        rfl
      rw [← hqn] at h9
      obtain ⟨q, hq⟩ : ∃ q : Int, q = u / 32 := ⟨_, rfl⟩
      obtain ⟨r, hr⟩ : ∃ r : Int, r = u % 32 := ⟨_, rfl⟩
      rw [← hq] at hbig hdm hq0 hq1 h9
      rw [← hr] at hbig hdm hm0 hm1
      obtain ⟨j, hj⟩ : ∃ j : Int, j = i - 1 := ⟨_, rfl⟩
      have hj2 : 0 ≤ j ∧ j < 65 := by omega
      have e1 : wrap64 (i - 1) = j := by unfold wrap64; omega
      have e2 : bits .and .u64 u 31 = r := by rw [hr]; exact and_mask u 5 h1 (by omega)
      have e3 : u / 32 = q := hq.symm
      obtain ⟨hx, hf⟩ := Kd.R_celln 0 HR.out j (by omega) (by omega)
      have hdg := digits_idx r (by omega)
      have p1 : (0 ≤ r) = True := eq_true hm0
      have p2 : (r < 36) = True := eq_true (by omega)
      have p3 : (0 ≤ j) = True := eq_true hj2.1
      have p4 : (j < 65) = True := eq_true hj2.2
      have HJ := Aside0.mk hj
      have HJ2 := Aside0.mk hj2
      have HBIG := Aside0.mk hbig
      have HQ := Aside0.mk (show 0 ≤ q ∧ q < 4294967296 from ⟨hq0, by omega⟩)
      have H9 := Aside0.mk h9
      have HP2 := Aside0.mk (Kd.R_putn HR.out j (chI r))
      clear hj hj2 hlt h1 h2 h3 h4 h5 h6 h7 h8 h9 hbig hdm hm0 hm1 hq0 hq1 hqn hq hr
      go_wp2
      go_roundg (k2 + 1)
      case measure => omega
      case rel =>
        have hi := HI.out
        have hj := HJ.out
        have hj2 := HJ2.out
        refine ⟨q, j, L.set j.toNat (chI r), rfl, rfl, ⟨HQ.out.1, HQ.out.2, H9.out, by omega, by omega, by rw [List.length_set]; exact hi.2.2.2.2.2⟩, ⟨?_⟩, ⟨HP2.out⟩, ⟨below_set HB2.out GB.out⟩⟩
        rw [drop_set_at L j.toNat (chI r) (by omega), show j.toNat + 1 = i.toNat by omega, ← HS.out, HBIG.out, List.append_assoc]
        rfl
    · have d4 : decide (32 ≤ u) = false := decide_eq_false hlt
      obtain ⟨j, hj⟩ : ∃ j : Int, j = i - 1 := ⟨_, rfl⟩
      have hj2 : 0 ≤ j ∧ j < 65 := by have := HI.out; omega
      have e1 : wrap64 (i - 1) = j := by unfold wrap64; omega
      obtain ⟨hx, hf⟩ := Kd.R_celln 0 HR.out j (by omega) (by omega)
      have hu1 := HI.out.1
      have hdg := digits_idx u (by omega)
      have p1 : (0 ≤ u) = True := eq_true hu1
      have p2 : (u < 36) = True := eq_true (by omega)
      have p3 : (0 ≤ j) = True := eq_true hj2.1
      have p4 : (j < 65) = True := eq_true hj2.2
      have HJ := Aside0.mk hj
      have HJ2 := Aside0.mk hj2
      have HLT := Aside0.mk hlt
      clear hj hj2 hlt hu1 h7
      have HP2 := Aside0.mk (Kd.R_putn HR.out j (chI u))
      obtain ⟨j3, hj3⟩ : ∃ j3 : Int, j3 = j - 1 := ⟨_, rfl⟩
      have hj4 : 0 ≤ j3 ∧ j3 < 65 := by have := HI.out; have := HJ.out; omega
      have e5 : wrap64 (j - 1) = j3 := by have := HJ2.out; unfold wrap64; omega
      obtain ⟨hx3, hf3⟩ := Kd.R_celln 0 HP2.out j3 (by omega) (by omega)
      have HP3 := Aside0.mk (Kd.R_putn HP2.out j3 45)
      have p5 : (0 ≤ j3) = True := eq_true hj4.1
      have p6 : (j3 < 65) = True := eq_true hj4.2
      have HJ3 := Aside0.mk hj3
      have HJ4 := Aside0.mk hj4
      clear hj3 hj4
      have hsl : ∀ W, (Instr.sliceAt 76 (.pointer (some ⟨gb, 0, none⟩)) (some (.int .i64 j3)) none none).run Tryd.prog W = .ok (.slice (some ⟨gb, j3.toNat, none⟩) (65 - j3.toNat) (65 - j3.toNat)) W := fun W => slice_arr gb j3 HJ4.out W
      have hcv : (convert 52 9 (.slice (some ⟨gb, j3.toNat, none⟩) (65 - j3.toNat) (65 - j3.toNat))).run Tryd.prog ((wr.setCell ⟨gb, j.toNat, none⟩ (.int .u8 (chI u))).setCell ⟨gb, j3.toNat, none⟩ (.int .u8 45)) = .ok (.string (strOfNums (45 :: showI 32 u0))) ((wr.setCell ⟨gb, j.toNat, none⟩ (.int .u8 (chI u))).setCell ⟨gb, j3.toNat, none⟩ (.int .u8 45)) := by
        have hi := HI.out
        have hj := HJ.out
        have hj2 := HJ2.out
        have hj3 := HJ3.out
        have hj4 := HJ4.out
        have h7 := HBb.out
        have h := C_cut (Kd.R_reads' HP3.out).2.2 (c := 65) (by rw [List.length_set, List.length_set]; omega) j3.toNat (65 - j3.toNat) (by rw [List.length_set, List.length_set]; omega)
        rw [cutAt_own (show j3.toNat < 65 by omega)] at h
        have h' : Kd.C (Kd.int .u8) ((wr.setCell ⟨gb, j.toNat, none⟩ (.int .u8 (chI u))).setCell ⟨gb, j3.toNat, none⟩ (.int .u8 45)) (some ⟨gb, j3.toNat * 1, none⟩) (65 - j3.toNat) ((((L.set j.toNat (chI u)).set j3.toNat 45).drop j3.toNat).take (65 - j3.toNat)) := h
        rw [Nat.mul_one] at h'
        have h2 := Kd.C_string (src := 52) (dst := 9) (c := 65 - j3.toNat) Tryd.underlying52 Tryd.underlying5 Tryd.underlying9 h'
        rw [h2, List.take_of_length_le (by rw [List.length_drop, List.length_set, List.length_set]; omega), drop_set_at _ j3.toNat 45 (by rw [List.length_set]; omega), show j3.toNat + 1 = j.toNat by omega, drop_set_at L j.toNat (chI u) (by omega), show j.toNat + 1 = i.toNat by omega, ← HS.out, showI_small hi.1 (Int.lt_of_not_ge HLT.out) h7.2.1]
        rfl
      go_wp2
      go_ret2
      exact ⟨rfl, below_set (below_set HB2.out GB.out) GB.out⟩
end Go.Proofs.YthlpdjnfcjpbpaaDoor.Q
