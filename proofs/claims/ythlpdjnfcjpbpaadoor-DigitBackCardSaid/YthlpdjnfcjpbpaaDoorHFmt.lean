/- Numbers as texts: strconv's FormatUint and FormatInt for numbers of 32 bits, in every base. -/
import Derived.Lib.AppendIntMem
import Derived.Test.YthlpdjnfcjpbpaaDoorHBits
namespace Go.Proofs.YthlpdjnfcjpbpaaDoor.Q
open Go.RowKit Go.Sort Go.Lib Go.Proofs.YthlpdjnfcjpbpaaDoorW.PrintWords Go.Proofs.YthlpdjnfcjpbpaaDoorW.PrintLast Go.Proofs.YthlpdjnfcjpbpaaDoorW.PrintMore
def showB (b u : Int) : ByteArray := ⟨(showL b.toNat u.toNat).toArray⟩
theorem str_showI (b u : Int) : strOfNums (showI b u) = showB b u := by
  unfold strOfNums showI showB
  rw [List.map_map]
  congr 2
  conv => rhs; rw [← List.map_id (showL b.toNat u.toNat)]
  apply List.map_congr_left
  intro c _
  exact UInt8.toNat_inj.1 (by simp)
theorem str_neg (b u : Int) : strOfNums (45 :: showI b u) = ⟨#[45]⟩ ++ showB b u := by
  have h := str_showI b u
  unfold showB at h ⊢
  rw [show (⟨#[45]⟩ : ByteArray) = ⟨([45] : List UInt8).toArray⟩ from rfl, ByteArray.mk_append_mk]
  unfold strOfNums at h ⊢
  rw [List.map_cons]
  have h2 : (List.map (fun n : Int => UInt8.ofNat n.toNat) (showI b u)) = showL b.toNat u.toNat := by
    have := congrArg (fun s : ByteArray => s.data.toList) h
    simpa using this
  rw [h2]
  rfl
theorem dec_show (u : Nat) : (⟨(decDigits u).toArray⟩ : ByteArray) = showB 10 u := by
  unfold showB
  rw [showL_ten]
  rfl
set_option maxHeartbeats 1000000 in
set_option maxRecDepth 100000 in
theorem formatUint_ten (u : Nat) (hu : u < 4294967296) (w : World) (ht : Tabs w) :
    Calls Tryd.prog 30 #[.int .u64 u, .int .i64 10] w fun e w' => e = .returned (.string (showB 10 u)) ∧ Below w.heap.size w w' := by
  rw [← dec_show]
  by_cases h1 : u < 100
  · have HS := Aside0.mk (Tryd.internal_strconv_small u h1 w)
    have d1 : decide ((u : Int) < 100) = true := decide_eq_true (by omega)
    have e1 : wrap64 (u : Int) = u := by unfold wrap64; omega
    clear ht hu h1
    go_enter Tryd.func30, Tryd.ntmps30
    go_wp2_with (first
      | (go_at_call 39; (with_reducible refine HS.out.mono ?_); rintro e w1 ⟨rfl, rfl⟩))
    go_ret
    exact ⟨rfl, Below.refl _ _⟩
  · have d1 : decide ((u : Int) < 100) = false := decide_eq_false (by omega)
    have hu1 : 1 ≤ u := by omega
    have hu64 : u < 18446744073709551616 := by omega
    have hnd20 : nDigits u ≤ 20 := by have := numDigits_eq u hu1 hu64; split at this <;> omega
    have hal : Tryd.prog.arrayLen 63 = 24 := by kernel_rfl
    have hel : Tryd.prog.elem 63 = 5 := by kernel_rfl
    have hsl1 : ∀ W, (Instr.sliceAt 63 (.pointer (some ⟨w.heap.size, 0, none⟩)) none (some (.int .i64 (nDigits u : Int))) none).run Tryd.prog W = .ok (.slice (some ⟨w.heap.size, 0, none⟩) (nDigits u) 24) W := fun W => by
      rw [run_sliceAt_array_h W 63 ⟨w.heap.size, 0, none⟩ (by kernel_rfl) .i64 (nDigits u : Int) (by omega) (by rw [hal]; omega), hal, hel, run_size (sz := 1) (by kernel_rfl) W]
      show Result.ok (slicedAt ⟨w.heap.size, 0, none⟩ 0 (nDigits u : Int).toNat 24 1) W = _
      unfold slicedAt
      rw [if_neg (by omega), Nat.zero_mul, Go.Lib.add_plain, Int.toNat_natCast]
      rfl
    have hH0 := holds_zero0 w 63 (nDigits u) (by omega)
    have hfmt := Tryd.internal_strconv_formatBase10 w.heap.size 0 24 u (Array.replicate (nDigits u) 0) (w.alloc (.cells zeros24 63)) hH0 (by rw [Array.size_replicate]; exact lt_pow_nDigits u) hu64 (by rw [Array.size_replicate]; omega)
    rw [Array.size_replicate] at hfmt
    have HH0 := Aside0.mk hH0
    have HF := Aside0.mk hfmt
    have HND := Aside0.mk (Tryd.internal_strconv_numDigits u hu1 hu64 (w.alloc (.cells zeros24 63)) (tabIs_alloc ht.strconv_uint64pow10 _))
    clear hH0 hal hel hfmt ht hu h1 hu1 hu64 hnd20
    go_enter Tryd.func30, Tryd.ntmps30
    go_wp2_with (first
      | (go_at_call 40; refine HND.out.mono ?_; rintro e w' ⟨rfl, rfl⟩)
      | (go_at_call 41; refine HF.out.mono ?_; rintro e w' ⟨rfl, k, v', dk, hwk, hF⟩; have HW := Aside0.mk hwk; have HFI := Aside0.mk hF; have hcv : (convert 52 9 (.slice (some ⟨w.heap.size, 0, none⟩) (nDigits u) 24)).run Tryd.prog w' = .ok (.string ⟨(decDigits u).toArray⟩) w' := (by
          have h := run_convert_bytes_back (P := Tryd.prog) w' 52 9 5 ⟨w.heap.size, 0, none⟩ 24 (decDigits u) Tryd.underlying52 Tryd.underlying5 Tryd.underlying9 (fun j hj => by
            rw [row_is_numeral hF j hj, Go.Lib.add_plain, hwk, World.cell?_drewN]
            exact cell?_putRow (fun (b : UInt8) => Value.int .u8 (b.toNat : Int)) _ w.heap.size 0 _ dk HH0.out (by rw [hF.size, Array.size_replicate]) j (by rw [hF.size]; rw [decDigits_length] at hj; exact hj))
          rw [decDigits_length] at h
          exact h); clear hwk hF))
    go_ret
    refine ⟨rfl, ?_⟩
    obtain ⟨os, eo⟩ := fin_at w (.cells zeros24 63) _ _ 0
    rw [HW.out, eo]
    exact Q.below_grow (pw_below_drewN (Below.refl _ _) _) os
end Go.Proofs.YthlpdjnfcjpbpaaDoor.Q
