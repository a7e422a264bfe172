/- Contracts of Go functions and plain facts, of several texts, one behind the other; no condition. -/
import Derived.Shelf.Small.Wraps
import Derived.Shelf.Strconv.Itoa0
import Derived.Shelf.Strconv.Itoa1
import Derived.Shelf.LaysM
import Derived.Shelf.Strconv.Itoa2
import Derived.Shelf.Strings.Search1
import Derived.Shelf.Strings.Search2
import Derived.Shelf.Strings.Cut
import Derived.Shelf.Strings.Shaped
import Derived.Shelf.Strings.Prefix
import Derived.Test.YtefhngadeimklaaDoorProg
import Derived.Test.YtefhngadeimklaaDoorMVarsSets2
import Derived.Lib.AppendIntMem
section
namespace Go.Proofs
open Go.Shelf
def Tryd.lays283_ren : Go.Shelf.Ren := ⟨fun | 283 => 94 | n => n, fun | 3 => 3 | 9 => 9 | 4 => 4 | n => n, fun | n => n⟩
theorem Tryd.lays283 : Go.Proofs.Lays.n283 Tryd.prog Tryd.lays283_ren := {
  mixed := by kernel_rfl
  f283 := Tryd.func94.trans (congrArg some (by kernel_rfl))
  t3 := Tryd.underlying3
  a3 := Tryd.isAgg3
  z3 := Tryd.sizeOf3
  v3 := Tryd.zeroValue3
  t4 := Tryd.underlying4
  a4 := Tryd.isAgg4
  z4 := Tryd.sizeOf4
  v4 := Tryd.zeroValue4
  t9 := Tryd.underlying9
  a9 := Tryd.isAgg9
  z9 := Tryd.sizeOf9
  v9 := Tryd.zeroValue9 }
open Go.Lib in
/-- internal/strconv.small: "small returns the string for an i with 0 <= i < nSmalls.": i's decimal numeral. The world is as it was. (LAID: no walk: one application.) -/
theorem Tryd.internal_strconv_small (i : Nat) (h : i < 100) (w : World) :
    Calls Tryd.prog 94 #[.int .i64 i] w fun e w' => e = .returned (.string ⟨(Lib.decDigits i).toArray⟩) ∧ w' = w := Any.internal_strconv_small Tryd.lays283 i h w
def Tryd.laysM284_ren : Go.Shelf.Ren := ⟨fun | 284 => 95 | 129 => 101 | 317 => 100 | 318 => 102 | n => n, fun | 53 => 87 | 3 => 3 | 212 => 128 | 0 => 0 | 4 => 4 | 46 => 98 | 5 => 5 | 9 => 9 | n => n, fun | 17 => 1 | n => n⟩
theorem Tryd.laysM284 : Go.Proofs.LaysM.n284 Tryd.prog Tryd.laysM284_ren := {
  mixed := by kernel_rfl
  f129 := Tryd.func101.trans (congrArg some (by kernel_rfl))
  f284 := Tryd.func95.trans (congrArg some (by kernel_rfl))
  f317 := Tryd.func100.trans (congrArg some (by kernel_rfl))
  f318 := Tryd.func102.trans (congrArg some (by kernel_rfl))
  t0 := Tryd.underlying0
  a0 := Tryd.isAgg0
  z0 := Tryd.sizeOf0
  v0 := Tryd.zeroValue0
  t3 := Tryd.underlying3
  a3 := Tryd.isAgg3
  z3 := Tryd.sizeOf3
  v3 := Tryd.zeroValue3
  t4 := Tryd.underlying4
  a4 := Tryd.isAgg4
  z4 := Tryd.sizeOf4
  v4 := Tryd.zeroValue4
  t5 := Tryd.underlying5
  a5 := Tryd.isAgg5
  z5 := Tryd.sizeOf5
  v5 := Tryd.zeroValue5
  t9 := Tryd.underlying9
  a9 := Tryd.isAgg9
  z9 := Tryd.sizeOf9
  v9 := Tryd.zeroValue9
  t46 := Tryd.underlying98
  a46 := Tryd.isAgg98
  z46 := Tryd.sizeOf98
  v46 := Tryd.zeroValue98
  t53 := Tryd.underlying87
  a53 := Tryd.isAgg87
  z53 := Tryd.sizeOf87
  v53 := Tryd.zeroValue87
  t212 := Tryd.underlying128
  a212 := Tryd.isAgg128
  z212 := Tryd.sizeOf128
  v212 := Tryd.zeroValue128
  g17 := by kernel_rfl
  i0 := by kernel_rfl
  i3 := by kernel_rfl
  i4 := by kernel_rfl
  i5 := by kernel_rfl
  i9 := by kernel_rfl
  i46 := by kernel_rfl
  i53 := by kernel_rfl
  i212 := by kernel_rfl
  m17 := by kernel_rfl }
open Go.Lib in
/-- internal/strconv.numDigits, at a d that is not 0: THE NUMBER OF d's DECIMAL DIGITS. The world is as it was. (LAID: no walk: one application.) -/
theorem Tryd.internal_strconv_numDigits (u : Nat) (h1 : 1 ≤ u) (h2 : u < 18446744073709551616) (w : World) (htab : Lib.TabIs Tryd.prog w "internal/strconv.uint64pow10" .u64 Lib.pow10Tab) :
    Calls Tryd.prog 95 #[.int .u64 u] w fun e w' => e = .returned (.int .i64 (Lib.nDigits u)) ∧ w' = w := Any.internal_strconv_numDigits Tryd.laysM284 u h1 h2 w htab
def Tryd.lays285_ren : Go.Shelf.Ren := ⟨fun | 285 => 96 | n => n, fun | 37 => 42 | 53 => 87 | 3 => 3 | 4 => 4 | 51 => 71 | 9 => 9 | 5 => 5 | 0 => 0 | n => n, fun | n => n⟩
theorem Tryd.lays285 : Go.Proofs.Lays.n285 Tryd.prog Tryd.lays285_ren := {
  mixed := by kernel_rfl
  f285 := Tryd.func96.trans (congrArg some (by kernel_rfl))
  t0 := Tryd.underlying0
  a0 := Tryd.isAgg0
  z0 := Tryd.sizeOf0
  v0 := Tryd.zeroValue0
  t3 := Tryd.underlying3
  a3 := Tryd.isAgg3
  z3 := Tryd.sizeOf3
  v3 := Tryd.zeroValue3
  t4 := Tryd.underlying4
  a4 := Tryd.isAgg4
  z4 := Tryd.sizeOf4
  v4 := Tryd.zeroValue4
  t5 := Tryd.underlying5
  a5 := Tryd.isAgg5
  z5 := Tryd.sizeOf5
  v5 := Tryd.zeroValue5
  t9 := Tryd.underlying9
  a9 := Tryd.isAgg9
  z9 := Tryd.sizeOf9
  v9 := Tryd.zeroValue9
  t37 := Tryd.underlying42
  a37 := Tryd.isAgg42
  z37 := Tryd.sizeOf42
  v37 := Tryd.zeroValue42
  t51 := Tryd.underlying71
  a51 := Tryd.isAgg71
  z51 := Tryd.sizeOf71
  v51 := Tryd.zeroValue71
  t53 := Tryd.underlying87
  a53 := Tryd.isAgg87
  z53 := Tryd.sizeOf87
  v53 := Tryd.zeroValue87 }
open Go.RowKit Go.Sort Go.Lib in
/-- internal/strconv.formatBase10: "formatBase10 formats the decimal representation of u into a. The caller is responsible for ensuring that a is big enough to hold u. If a is too big, leading zeros will be filled in as needed.": THE ROW HOLDS u's DIGITS ('FmtInv .. 0 ..': every place t holds 'dg u (len - 1 - t)'); all else is as it was but for the count of draws. (LAID: no walk: one application.) -/
theorem Tryd.internal_strconv_formatBase10 (blk off cap : Nat) (u : Nat) (d : Array UInt8) (w : World) (hH : Holds (fun (b : UInt8) => Value.int .u8 (b.toNat : Int)) w blk off d) (hu : u < 10 ^ d.size) (hu64 : u < 18446744073709551616) (hsz : d.size < 4611686018427387904) :
    Calls Tryd.prog 96 #[.slice (some ⟨blk, off, none⟩) d.size cap, .int .u64 u] w fun e w' =>
      e = .returned (.tuple #[]) ∧ ∃ (n v' : Nat) (dk : Array UInt8), w' = (putRow (fun (b : UInt8) => Value.int .u8 (b.toNat : Int)) w blk off dk).drewN n ∧ FmtInv d.size u 0 v' dk := Any.internal_strconv_formatBase10 Tryd.lays285 blk off cap u d w hH hu hu64 hsz
def Tryd.lays219_ren : Go.Shelf.Ren := ⟨fun | 219 => 82 | 217 => 89 | 225 => 90 | 224 => 91 | 267 => 92 | 266 => 98 | 314 => 99 | n => n, fun | 9 => 9 | 3 => 3 | 4 => 4 | 5 => 5 | 46 => 98 | 146 => 125 | 51 => 71 | n => n, fun | 1 => 0 | n => n⟩
end Go.Proofs
end
section
namespace Go.Proofs.YtefhngadeimklaaDoor.Q
open Go.RowKit Go.Proofs.YtefhngadeimklaaDoorW.PrintWords Go.Proofs.YtefhngadeimklaaDoorW.PrintLast Go.Proofs.YtefhngadeimklaaDoorW.PrintMore
def chN (v : Nat) : Nat := if v < 10 then 48 + v else 87 + v
def showL (b u : Nat) : List UInt8 := if _h : u < b ∨ b < 2 then [UInt8.ofNat (chN u)] else showL b (u / b) ++ [UInt8.ofNat (chN (u % b))]
termination_by u
decreasing_by exact Nat.div_lt_self (by omega) (by omega)
theorem showL_small {b u : Nat} (h : u < b) : showL b u = [UInt8.ofNat (chN u)] := by rw [showL, dif_pos (.inl h)]
theorem showL_big {b u : Nat} (hb : 2 ≤ b) (h : b ≤ u) : showL b u = showL b (u / b) ++ [UInt8.ofNat (chN (u % b))] := by rw [showL, dif_neg (by omega)]
theorem showL_ten (u : Nat) : Go.Lib.decDigits u = showL 10 u := by
  induction u using Nat.strongRecOn with
  | ind u ih =>
    by_cases h : u < 10
    · rw [Go.Lib.decDigits, dif_pos h, showL_small h]
      unfold chN
      rw [if_pos h]
    · rw [Go.Lib.decDigits, dif_neg h, showL_big (by omega) (by omega), ih (u / 10) (Nat.div_lt_self (by omega) (by omega))]
      unfold chN
      rw [if_pos (Nat.mod_lt _ (by omega))]
theorem showL_len (b : Nat) (hb : 2 ≤ b) (k : Nat) : ∀ u : Nat, u < 2 ^ (k + 1) → (showL b u).length ≤ k + 1 := by
  induction k with
  | zero =>
    intro u hu
    rw [showL_small (by omega)]
    simp
  | succ k ih =>
    intro u hu
    by_cases h : u < b
    · rw [showL_small h]; simp
    · rw [showL_big hb (by omega), List.length_append]
      have h1 : u / b ≤ u / 2 := Nat.div_le_div_left hb (by omega)
      have h2 : u / 2 < 2 ^ (k + 1) := by
        rw [Nat.pow_succ] at hu
        omega
      have := ih (u / b) (by omega)
      simp
      omega
theorem showL_pos (b u : Nat) : 1 ≤ (showL b u).length := by
  rw [showL]
  split
  · simp
  · rw [List.length_append]; simp
theorem showL_one {b u : Nat} (hb : 2 ≤ b) (h : (showL b u).length = 1) : u < b := by
  rcases Nat.lt_or_ge u b with h1 | h1
  · exact h1
  · rw [showL_big hb h1, List.length_append] at h
    have := showL_pos b (u / b)
    rw [List.length_singleton] at h
    omega
theorem showL_more {b u k : Nat} (hb : 2 ≤ b) (h : (showL b u).length = k + 1 + 1) : b ≤ u ∧ (showL b (u / b)).length = k + 1 := by
  rcases Nat.lt_or_ge u b with h1 | h1
  · rw [showL_small h1] at h
    simp at h
  · refine ⟨h1, ?_⟩
    rw [showL_big hb h1, List.length_append] at h
    simpa using h
def showI (b u : Int) : List Int := (showL b.toNat u.toNat).map fun c => (c.toNat : Int)
def chI (v : Int) : Int := if v < 10 then v + 48 else v + 87
theorem ch_eq (v : Nat) (h : v < 36) : ((UInt8.ofNat (chN v)).toNat : Int) = chI v := by
  unfold chN chI
  by_cases h1 : v < 10
  · rw [if_pos h1, if_pos (by omega), UInt8.toNat_ofNat']
    omega
  · rw [if_neg h1, if_neg (by omega), UInt8.toNat_ofNat']
    omega
theorem showI_small {b u : Int} (h0 : 0 ≤ u) (h : u < b) (hb : b ≤ 36) : showI b u = [chI u] := by
  unfold showI
  rw [showL_small (by omega), List.map_singleton, ch_eq _ (by omega), Int.toNat_of_nonneg h0]
theorem showI_big {b u : Int} (hb : 2 ≤ b) (hb2 : b ≤ 36) (h : b ≤ u) : showI b u = showI b (u / b) ++ [chI (u % b)] := by
  unfold showI
  have e1 : (u / b).toNat = u.toNat / b.toNat := by
    obtain ⟨n, rfl⟩ := Int.eq_ofNat_of_zero_le (show 0 ≤ u by omega)
    obtain ⟨m, rfl⟩ := Int.eq_ofNat_of_zero_le (show 0 ≤ b by omega)
    rfl
  have e2 : ((u.toNat % b.toNat : Nat) : Int) = u % b := by
    rw [Int.natCast_emod, Int.toNat_of_nonneg (by omega), Int.toNat_of_nonneg (by omega)]
  rw [showL_big (by omega) (by omega), List.map_append, List.map_singleton, ch_eq _ (by have := Nat.mod_lt u.toNat (show 0 < b.toNat by omega); omega), e1, e2]
end Go.Proofs.YtefhngadeimklaaDoor.Q
end
section
namespace Go.Proofs.YtefhngadeimklaaDoor.Q
open Go.RowKit Go.Sort Go.Lib Go.Proofs.YtefhngadeimklaaDoorW.PrintWords Go.Proofs.YtefhngadeimklaaDoorW.PrintLast Go.Proofs.YtefhngadeimklaaDoorW.PrintMore
def showB (b u : Int) : ByteArray := ⟨(showL b.toNat u.toNat).toArray⟩
theorem below_grow {w w1 : World} (h : Below w.heap.size w w1) (os : Array Obj) : Below w.heap.size w (Go.Sort.grow w1 os) :=
  ⟨h.os, h.tape, h.output, by rw [Go.Sort.size_grow]; exact Nat.le_trans h.size (Nat.le_add_right _ _), fun i hi => by
    rw [← h.block i hi]
    show (w1.heap ++ os)[i]? = w1.heap[i]?
    rw [Array.getElem?_append_left (Nat.lt_of_lt_of_le hi h.size)]⟩
theorem dec_show (u : Nat) : (⟨(decDigits u).toArray⟩ : ByteArray) = showB 10 u := by
  unfold showB
  rw [showL_ten]
  rfl
set_option maxHeartbeats 1000000 in
set_option maxRecDepth 100000 in
theorem formatUint_ten (u : Nat) (hu : u < 4294967296) (w : World) (ht : Tabs w) :
    Calls Tryd.prog 88 #[.int .u64 u, .int .i64 10] w fun e w' => e = .returned (.string (showB 10 u)) ∧ Below w.heap.size w w' := by
  rw [← dec_show]
  by_cases h1 : u < 100
  · have HS := Aside0.mk (Tryd.internal_strconv_small u h1 w)
    have d1 : decide ((u : Int) < 100) = true := decide_eq_true (by omega)
    have e1 : wrap64 (u : Int) = u := by unfold wrap64; omega
    clear ht hu h1
    go_enter Tryd.func88, Tryd.ntmps88
    go_wp2_with (first
      | (go_at_call 94; (with_reducible refine HS.out.mono ?_); rintro e w1 ⟨rfl, rfl⟩))
    go_ret
    exact ⟨rfl, Below.refl _ _⟩
  · have d1 : decide ((u : Int) < 100) = false := decide_eq_false (by omega)
    have hu1 : 1 ≤ u := by omega
    have hu64 : u < 18446744073709551616 := by omega
    have hnd20 : nDigits u ≤ 20 := by have := numDigits_eq u hu1 hu64; split at this <;> omega
    have hal : Tryd.prog.arrayLen 120 = 24 := by kernel_rfl
    have hel : Tryd.prog.elem 120 = 5 := by kernel_rfl
    have hsl1 : ∀ W, (Instr.sliceAt 120 (.pointer (some ⟨w.heap.size, 0, none⟩)) none (some (.int .i64 (nDigits u : Int))) none).run Tryd.prog W = .ok (.slice (some ⟨w.heap.size, 0, none⟩) (nDigits u) 24) W := fun W => by
      rw [run_sliceAt_array_h W 120 ⟨w.heap.size, 0, none⟩ (by kernel_rfl) .i64 (nDigits u : Int) (by omega) (by rw [hal]; omega), hal, hel, run_size (sz := 1) (by kernel_rfl) W]
      show Result.ok (slicedAt ⟨w.heap.size, 0, none⟩ 0 (nDigits u : Int).toNat 24 1) W = _
      unfold slicedAt
      rw [if_neg (by omega), Nat.zero_mul, Go.Lib.add_plain, Int.toNat_natCast]
      rfl
    have hH0 := holds_zero0 w 120 (nDigits u) (by omega)
    have hfmt := Tryd.internal_strconv_formatBase10 w.heap.size 0 24 u (Array.replicate (nDigits u) 0) (w.alloc (.cells zeros24 120)) hH0 (by rw [Array.size_replicate]; exact lt_pow_nDigits u) hu64 (by rw [Array.size_replicate]; omega)
    rw [Array.size_replicate] at hfmt
    have HH0 := Aside0.mk hH0
    have HF := Aside0.mk hfmt
    have HND := Aside0.mk (Tryd.internal_strconv_numDigits u hu1 hu64 (w.alloc (.cells zeros24 120)) (tabIs_alloc ht.strconv_uint64pow10 _))
    clear hH0 hal hel hfmt ht hu h1 hu1 hu64 hnd20
    go_enter Tryd.func88, Tryd.ntmps88
    go_wp2_with (first
      | (go_at_call 95; refine HND.out.mono ?_; rintro e w' ⟨rfl, rfl⟩)
      | (go_at_call 96; refine HF.out.mono ?_; rintro e w' ⟨rfl, k, v', dk, hwk, hF⟩; have HW := Aside0.mk hwk; have HFI := Aside0.mk hF; have hcv : (convert 42 9 (.slice (some ⟨w.heap.size, 0, none⟩) (nDigits u) 24)).run Tryd.prog w' = .ok (.string ⟨(decDigits u).toArray⟩) w' := (by
          have h := run_convert_bytes_back (P := Tryd.prog) w' 42 9 5 ⟨w.heap.size, 0, none⟩ 24 (decDigits u) Tryd.underlying42 Tryd.underlying5 Tryd.underlying9 (fun j hj => by
            rw [row_is_numeral hF j hj, Go.Lib.add_plain, hwk, World.cell?_drewN]
            exact cell?_putRow (fun (b : UInt8) => Value.int .u8 (b.toNat : Int)) _ w.heap.size 0 _ dk HH0.out (by rw [hF.size, Array.size_replicate]) j (by rw [hF.size]; rw [decDigits_length] at hj; exact hj))
          rw [decDigits_length] at h
          exact h); clear hwk hF))
    go_ret
    refine ⟨rfl, ?_⟩
    obtain ⟨os, eo⟩ := fin_at w (.cells zeros24 120) _ _ 0
    rw [HW.out, eo]
    exact Q.below_grow (pw_below_drewN (Below.refl _ _) _) os
/-- At ten alone. -/
def digit_Show.f (n b : Int) : Option (ByteArray × Int) := if 0 ≤ n ∧ n < 4294967296 then (if b = 10 then some (showB 10 n, 0) else none) else none
set_option maxHeartbeats 1000000 in
set_option maxRecDepth 100000 in
theorem digit_Show.calls (a0 : Int) (a1 : Int) (r1 : ByteArray) (r2 : Int) (w : World) (ht : Tabs w) (h : digit_Show.f a0 a1 = some (r1, r2)) :
    Calls Tryd.prog 62 #[.int .u32 a0, .int .u32 a1] w fun e w' => e = .returned (.tuple #[.string r1, .int .i64 r2]) ∧ Below w.heap.size w w' := by
  unfold digit_Show.f at h
  split at h
  case isFalse => cases h
  rename_i hn
  split at h
  case isFalse => cases h
  rename_i hb
  subst hb
  obtain ⟨rfl, rfl⟩ := Prod.mk.inj (Option.some.inj h)
  obtain ⟨n, rfl⟩ := Int.eq_ofNat_of_zero_le hn.1
  have HU := Aside0.mk (show ∀ W : World, Tabs W → Calls Tryd.prog 80 #[.int .u64 (n : Int), .int .i64 10] W (fun e w' => e = .returned (.string (showB 10 n)) ∧ Below W.heap.size W w') from fun W hT => by
    have HC := Aside0.mk (formatUint_ten n (by omega) W hT)
    clear ht h hn hT
    go_enter Tryd.func80, Tryd.ntmps80
    go_wp2_with (first
      | (go_at_call 88; (with_reducible refine HC.out.mono ?_); rintro e w1 ⟨rfl, hb⟩; have HB := Aside0.mk hb; clear hb))
    go_ret
    exact ⟨rfl, HB.out⟩)
  have HF := Aside0.mk (show digit_fit.f 10 = some true by rw [fit_eq, decide_eq_true ⟨by decide, by decide⟩])
  have HT := Aside0.mk ht
  have e1 : IntKind.u64.wrap (n : Int) = (n : Int) := wrap_u64_id n hn.1 (by omega)
  clear h hn ht
  go_enter Tryd.func62, Tryd.ntmps62
  go_wp2_with (first
    | (go_at_call 77; (with_reducible refine (digit_fit.calls _ _ _ HF.out).mono ?_); rintro e w1 ⟨rfl, hd⟩; have HB1 := Aside0.mk hd.below; have HT1 := Aside0.mk (HT.out.below hd.below); clear hd)
    | (go_at_call 80; (with_reducible refine (HU.out _ HT1.out).mono ?_); rintro e w2 ⟨rfl, hb⟩; have HB2 := Aside0.mk (below_step HB1.out hb); clear hb))
  go_ret2
  exact ⟨rfl, HB2.out⟩
end Go.Proofs.YtefhngadeimklaaDoor.Q
end
section
namespace Go.Proofs.YtefhngadeimklaaDoor.Q
open Go.RowKit Go.Proofs.YtefhngadeimklaaDoorW.PrintWords Go.Proofs.YtefhngadeimklaaDoorW.PrintLast Go.Proofs.YtefhngadeimklaaDoorW.PrintMore
theorem digit_cut_all : ((List.range 36).all fun (d : Nat) => (digitsB.extract d (d + 1)).data.toList == [UInt8.ofNat (chN d)]) = true := by kernel_rfl
def digS (d : Int) : ByteArray := ⟨[UInt8.ofNat (chN d.toNat)].toArray⟩
theorem digit_cut (d d1 : Int) (h : 0 ≤ d ∧ d < 36) (h1 : d1 = d + 1) : (⟨#[48, 49, 50, 51, 52, 53, 54, 55, 56, 57, 97, 98, 99, 100, 101, 102, 103, 104, 105, 106, 107, 108, 109, 110, 111, 112, 113, 114, 115, 116, 117, 118, 119, 120, 121, 122]⟩ : ByteArray).extract d.toNat d1.toNat = digS d := by
  have h2 := List.all_eq_true.1 digit_cut_all d.toNat (List.mem_range.2 (by omega))
  rw [beq_iff_eq] at h2
  rw [show d1.toNat = d.toNat + 1 by omega]
  show digitsB.extract d.toNat (d.toNat + 1) = digS d
  unfold digS
  generalize digitsB.extract d.toNat (d.toNat + 1) = x at h2
  obtain ⟨⟨l⟩⟩ := x
  rw [show l = _ from h2]
theorem digS_size (d : Int) : (digS d).size = 1 := rfl
def preL (kq : Nat) (b u : Int) : List UInt8 := if kq = 0 then [] else showL b.toNat u.toNat
set_option maxHeartbeats 4000000 in
set_option maxRecDepth 100000 in
theorem refShow_calls (b n : Int) (hb : 2 ≤ b ∧ b ≤ 36) (hn : 0 ≤ n ∧ n < 4294967296) (w : World) :
    Calls Tryd.prog 49 #[.int .u32 n, .int .u32 b] w fun e w' => e = .returned (.tuple #[.string (showB b n), .int .i64 0]) ∧ Below w.heap.size w w' := by
  have HBb := Aside0.mk hb
  have HN := Aside0.mk hn
  have HB := Aside0.mk (Below.refl w.heap.size w)
  have d1 : decide (b < 2) = false := decide_eq_false (by omega)
  have d3 : decide (36 < b) = false := decide_eq_false (by omega)
  obtain ⟨n0, hn0⟩ : ∃ n0, n0 = (showL b.toNat n.toNat).length := ⟨_, rfl⟩
  have hn1 : 1 ≤ n0 ∧ n0 ≤ 32 := by
    rw [hn0]
    exact ⟨showL_pos _ _, showL_len b.toNat (by omega) 31 n.toNat (by omega)⟩
  have HN0 := Aside0.mk hn0
  clear hb hn hn0
  go_enter Tryd.func49, Tryd.ntmps49
  go_wp2
  go_loopg [0, 6, 7] n0 (fun kq v0 v6 v7 w' => ∃ (u : Int) (s : ByteArray) (i : Int), v0 = .int .u32 u ∧ v6 = .string s ∧ v7 = .int .i64 i ∧ Aside0 (0 ≤ u ∧ u < 4294967296 ∧ 0 ≤ i ∧ i + kq = n0 ∧ (kq = 0 → u = 0) ∧ (1 ≤ kq → (showL b.toNat u.toNat).length = kq ∧ (i = 0 ∨ 0 < u))) ∧ Aside0 (preL kq b u ++ s.data.toList = showL b.toNat n.toNat) ∧ Aside0 (Below w.heap.size w w'))
  case atStart =>
    have h1 := HN.out
    refine ⟨n, _, 0, rfl, rfl, rfl, ⟨h1.1, h1.2, by omega, by omega, by omega, fun _ => ⟨HN0.out.symm, .inl rfl⟩⟩, ⟨?_⟩, HB⟩
    unfold preL
    rw [if_neg (by omega)]
    simp
  case round =>
    clear HB
    obtain ⟨u, s, i, rfl, rfl, rfl, HI, HS, HB⟩ := hrel
    cases gk with
    | zero =>
      have hi := HI.out
      have hu : u = 0 := hi.2.2.2.2.1 rfl
      subst hu
      have hs : s = showB b n := by
        have h := HS.out
        unfold showB
        rw [← h]
        obtain ⟨⟨l⟩⟩ := s
        rfl
      subst hs
      have d4 : (i == 0) = false := beq_eq_false_iff_ne.2 (by omega)
      by_cases h32 : i < 32
      · have d5 : decide (i < 32) = true := decide_eq_true h32
        clear hi h32
        go_wp2
        go_ret2
        exact ⟨rfl, HB.out⟩
      · have d5 : decide (i < 32) = false := decide_eq_false h32
        clear hi h32
        go_wp2
        go_ret2
        exact ⟨rfl, HB.out⟩
    | succ k1 =>
      obtain ⟨h1, h2, h3, h4, h5, h6⟩ := HI.out
      obtain ⟨h8, h9⟩ := h6 (by omega)
      have h7 := HBb.out
      have d5 : decide (i < 32) = true := decide_eq_true (by omega)
      have hm0 := Int.emod_nonneg u (show b ≠ 0 by omega)
      have hm1 := Int.emod_lt_of_pos u (show 0 < b by omega)
      have hq0 : 0 ≤ u / b := Int.ediv_nonneg h1 (by omega)
      have hq1 : u / b ≤ u := Int.ediv_le_self _ h1
      have htd : u.tdiv b = u / b := Int.tdiv_eq_ediv_of_nonneg h1
      have htm : u.tmod b = u % b := Int.tmod_eq_emod_of_nonneg h1
      have hss := HS.out
      have hsz : s.size + (k1 + 1) = n0 := by
        have h := congrArg List.length hss
        unfold preL at h
        rw [if_neg (by omega), List.length_append, h8, data_length, ← HN0.out] at h
        omega
      obtain ⟨q, hq⟩ : ∃ q : Int, q = u / b := ⟨_, rfl⟩
      obtain ⟨d, hd⟩ : ∃ d : Int, d = u % b := ⟨_, rfl⟩
      obtain ⟨dd, hdd⟩ : ∃ dd : Int, dd = d + 1 := ⟨_, rfl⟩
      have p5 : (b = 0) = False := eq_false (by omega)
      have htd2 : u.tdiv b = q := by rw [htd, hq]
      have htm2 : u.tmod b = d := by rw [htm, hd]
      rw [← hd] at hm0 hm1
      rw [← hq] at hq0 hq1
      have e1 : IntKind.u32.wrap q = q := by simp [IntKind.wrap, IntKind.bits, IntKind.signed]; omega
      have e2 : IntKind.u32.wrap d = d := by simp [IntKind.wrap, IntKind.bits, IntKind.signed]; omega
      have e3 : wrap64 d = d := by unfold wrap64; omega
      have e4 : wrap64 (d + 1) = dd := by rw [hdd]; unfold wrap64; omega
      have e5 : wrap64 (i + 1) = i + 1 := by unfold wrap64; omega
      have hcut := digit_cut d dd ⟨hm0, by omega⟩ hdd
      have hcs : (digS d).size + s.size ≤ 9223372036854775807 := by rw [digS_size]; omega
      have g1 : (0 ≤ d) = True := eq_true hm0
      have g2 : (d ≤ dd) = True := eq_true (by omega)
      have g3 : (dd ≤ 36) = True := eq_true (by omega)
      have HREL := Aside0.mk (show 0 ≤ q ∧ q < 4294967296 ∧ 0 ≤ i + 1 ∧ i + 1 + k1 = n0 ∧ (k1 = 0 → q = 0) ∧ (1 ≤ k1 → (showL b.toNat q.toNat).length = k1 ∧ (i + 1 = 0 ∨ 0 < q)) ∧ preL k1 b q ++ (digS d ++ s).data.toList = showL b.toNat n.toNat from by
        have hqn : q.toNat = u.toNat / b.toNat := by
          rw [hq]
          obtain ⟨x, rfl⟩ := Int.eq_ofNat_of_zero_le h1
          obtain ⟨m, rfl⟩ := Int.eq_ofNat_of_zero_le (show 0 ≤ b by omega)
          rfl
        have hdn : d.toNat = u.toNat % b.toNat := by
          rw [hd]
          obtain ⟨x, rfl⟩ := Int.eq_ofNat_of_zero_le h1
          obtain ⟨m, rfl⟩ := Int.eq_ofNat_of_zero_le (show 0 ≤ b by omega)
          rfl
        have hap : (digS d ++ s).data.toList = UInt8.ofNat (chN d.toNat) :: s.data.toList := by
          obtain ⟨⟨l⟩⟩ := s
          unfold digS
          rw [show (⟨⟨l⟩⟩ : ByteArray) = ⟨l.toArray⟩ from rfl, ByteArray.mk_append_mk]
          rfl
        rw [hap]
        unfold preL at hss ⊢
        rw [if_neg (by omega)] at hss
        cases k1 with
        | zero =>
          have hlt := showL_one (show 2 ≤ b.toNat by omega) h8
          have hq0' : q = 0 := by
            have : q.toNat = 0 := by rw [hqn]; exact Nat.div_eq_of_lt hlt
            omega
          refine ⟨hq0, by omega, by omega, by omega, fun _ => hq0', fun h => by omega, ?_⟩
          rw [if_pos rfl, ← hss, showL_small hlt, hdn, Nat.mod_eq_of_lt hlt]
          rfl
        | succ k2 =>
          obtain ⟨hge, hl2⟩ := showL_more (show 2 ≤ b.toNat by omega) h8
          have hqp : 0 < q := by
            have h10 : 1 ≤ u.toNat / b.toNat := (Nat.le_div_iff_mul_le (by omega)).2 (by omega)
            omega
          refine ⟨hq0, by omega, by omega, by omega, fun h => by omega, fun _ => ⟨by rw [hqn]; exact hl2, .inr hqp⟩, ?_⟩
          rw [if_neg (by omega), ← hss, showL_big (by omega) hge, hqn, hdn, List.append_assoc]
          rfl)
      have H9 := Aside0.mk h9
      clear h1 h2 h3 h4 h5 h6 h7 h8 hm0 hm1 hq0 hq1 htd htm hss hsz hq hd hdd hn1
      by_cases hup : 0 < u
      · have d6 : decide (0 < u) = true := decide_eq_true hup
        clear hup h9
        go_wp2
        go_roundg k1
        case measure => omega
        case rel =>
          have h := HREL.out
          exact ⟨q, digS d ++ s, i + 1, rfl, rfl, rfl, ⟨h.1, h.2.1, h.2.2.1, h.2.2.2.1, h.2.2.2.2.1, h.2.2.2.2.2.1⟩, ⟨h.2.2.2.2.2.2⟩, HB⟩
      · have d6 : decide (0 < u) = false := decide_eq_false hup
        have d7 : (i == 0) = true := beq_iff_eq.2 (by omega)
        clear hup h9
        go_wp2
        go_roundg k1
        case measure => omega
        case rel =>
          have h := HREL.out
          exact ⟨q, digS d ++ s, i + 1, rfl, rfl, rfl, ⟨h.1, h.2.1, h.2.2.1, h.2.2.2.1, h.2.2.2.2.1, h.2.2.2.2.2.1⟩, ⟨h.2.2.2.2.2.2⟩, HB⟩
def tinderref02_Show.f (n b : Int) : Option (ByteArray × Int) := if 0 ≤ n ∧ n < 4294967296 then (if 2 ≤ b ∧ b ≤ 36 then some (showB b n, 0) else some (⟨#[]⟩, 1)) else none
set_option maxHeartbeats 1000000 in
set_option maxRecDepth 100000 in
theorem tinderref02_Show.calls (a0 : Int) (a1 : Int) (r1 : ByteArray) (r2 : Int) (w : World) (h : tinderref02_Show.f a0 a1 = some (r1, r2)) :
    Calls Tryd.prog 49 #[.int .u32 a0, .int .u32 a1] w fun e w' => e = .returned (.tuple #[.string r1, .int .i64 r2]) ∧ Below w.heap.size w w' := by
  unfold tinderref02_Show.f at h
  split at h
  case isFalse => cases h
  rename_i hn
  by_cases hb : 2 ≤ a1 ∧ a1 ≤ 36
  · rw [if_pos hb] at h
    obtain ⟨rfl, rfl⟩ := Prod.mk.inj (Option.some.inj h)
    exact refShow_calls a1 a0 hb hn w
  · rw [if_neg hb] at h
    obtain ⟨rfl, rfl⟩ := Prod.mk.inj (Option.some.inj h)
    by_cases h2 : a1 < 2
    · have d1 : decide (a1 < 2) = true := decide_eq_true h2
      clear h hb h2 hn
      go_enter Tryd.func49, Tryd.ntmps49
      go_wp2
      go_ret2
      exact ⟨rfl, Below.refl _ _⟩
    · have d1 : decide (a1 < 2) = false := decide_eq_false h2
      have d2 : decide (36 < a1) = true := decide_eq_true (by omega)
      clear h hb h2 hn
      go_enter Tryd.func49, Tryd.ntmps49
      go_wp2
      go_ret2
      exact ⟨rfl, Below.refl _ _⟩
end Go.Proofs.YtefhngadeimklaaDoor.Q
end
section
namespace Go.Proofs.YtefhngadeimklaaDoor.Q
open Go.RowKit Go.Proofs.YtefhngadeimklaaDoorW.PrintWords Go.Proofs.YtefhngadeimklaaDoorW.PrintLast Go.Proofs.YtefhngadeimklaaDoorW.PrintMore
set_option linter.unusedVariables false
set_option linter.unusedSimpArgs false

attribute [local go_sem] max2_int min2_int max_two min_two max_three min_three max_four min_four
/-! ### vars_all: function 50 -/
def vars_all.f  : Option ((List (S57))) := some (([(⟨(⟨#[97, 117, 116, 111, 45, 98, 111, 111, 116, 63]⟩ : ByteArray), 0, (⟨#[116, 114, 117, 101]⟩ : ByteArray)⟩ : S57), (⟨(⟨#[98, 111, 111, 116, 45, 100, 101, 118, 105, 99, 101]⟩ : ByteArray), 2, (⟨#[100, 105, 115, 107, 32, 110, 101, 116]⟩ : ByteArray)⟩ : S57), (⟨(⟨#[98, 111, 111, 116, 45, 102, 105, 108, 101]⟩ : ByteArray), 2, (⟨#[]⟩ : ByteArray)⟩ : S57), (⟨(⟨#[98, 111, 111, 116, 45, 108, 105, 109, 105, 116]⟩ : ByteArray), 1, (⟨#[53, 48, 48, 48]⟩ : ByteArray)⟩ : S57), (⟨(⟨#[105, 110, 112, 117, 116, 45, 100, 101, 118, 105, 99, 101]⟩ : ByteArray), 2, (⟨#[107, 101, 121, 98, 111, 97, 114, 100]⟩ : ByteArray)⟩ : S57), (⟨(⟨#[110, 118, 114, 97, 109, 114, 99]⟩ : ByteArray), 2, (⟨#[]⟩ : ByteArray)⟩ : S57), (⟨(⟨#[111, 101, 109, 45, 98, 97, 110, 110, 101, 114]⟩ : ByteArray), 2, (⟨#[]⟩ : ByteArray)⟩ : S57), (⟨(⟨#[115, 99, 114, 101, 101, 110, 45, 116, 117, 114, 110]⟩ : ByteArray), 1, (⟨#[48]⟩ : ByteArray)⟩ : S57), (⟨(⟨#[117, 115, 101, 45, 110, 118, 114, 97, 109, 114, 99, 63]⟩ : ByteArray), 0, (⟨#[102, 97, 108, 115, 101]⟩ : ByteArray)⟩ : S57)] : List (S57)))
set_option maxHeartbeats 8000000 in
set_option maxRecDepth 100000 in
theorem vars_all.calls  (r : List (S57)) (w : World) (h : vars_all.f  = some r) :
    Calls Tryd.prog 50 #[] w fun e w' => ∃ v0_ : Value, e = .returned (v0_) ∧ Kd.R k57 57 w' w.heap.size (fun _ => True) v0_ r ∧ Below w.heap.size w w' := by
  have hu57 := Tryd.underlying57
  have HB := Aside0.mk (Below.refl w.heap.size w)
  have H : (some (([(⟨(⟨#[97, 117, 116, 111, 45, 98, 111, 111, 116, 63]⟩ : ByteArray), 0, (⟨#[116, 114, 117, 101]⟩ : ByteArray)⟩ : S57), (⟨(⟨#[98, 111, 111, 116, 45, 100, 101, 118, 105, 99, 101]⟩ : ByteArray), 2, (⟨#[100, 105, 115, 107, 32, 110, 101, 116]⟩ : ByteArray)⟩ : S57), (⟨(⟨#[98, 111, 111, 116, 45, 102, 105, 108, 101]⟩ : ByteArray), 2, (⟨#[]⟩ : ByteArray)⟩ : S57), (⟨(⟨#[98, 111, 111, 116, 45, 108, 105, 109, 105, 116]⟩ : ByteArray), 1, (⟨#[53, 48, 48, 48]⟩ : ByteArray)⟩ : S57), (⟨(⟨#[105, 110, 112, 117, 116, 45, 100, 101, 118, 105, 99, 101]⟩ : ByteArray), 2, (⟨#[107, 101, 121, 98, 111, 97, 114, 100]⟩ : ByteArray)⟩ : S57), (⟨(⟨#[110, 118, 114, 97, 109, 114, 99]⟩ : ByteArray), 2, (⟨#[]⟩ : ByteArray)⟩ : S57), (⟨(⟨#[111, 101, 109, 45, 98, 97, 110, 110, 101, 114]⟩ : ByteArray), 2, (⟨#[]⟩ : ByteArray)⟩ : S57), (⟨(⟨#[115, 99, 114, 101, 101, 110, 45, 116, 117, 114, 110]⟩ : ByteArray), 1, (⟨#[48]⟩ : ByteArray)⟩ : S57), (⟨(⟨#[117, 115, 101, 45, 110, 118, 114, 97, 109, 114, 99, 63]⟩ : ByteArray), 0, (⟨#[102, 97, 108, 115, 101]⟩ : ByteArray)⟩ : S57)] : List (S57)))) = some r := h
  clear h
  obtain ⟨y51001, hy51001⟩ : ∃ y_ : List (S57), y_ = (([(⟨(⟨#[97, 117, 116, 111, 45, 98, 111, 111, 116, 63]⟩ : ByteArray), 0, (⟨#[116, 114, 117, 101]⟩ : ByteArray)⟩ : S57), (⟨(⟨#[98, 111, 111, 116, 45, 100, 101, 118, 105, 99, 101]⟩ : ByteArray), 2, (⟨#[100, 105, 115, 107, 32, 110, 101, 116]⟩ : ByteArray)⟩ : S57), (⟨(⟨#[98, 111, 111, 116, 45, 102, 105, 108, 101]⟩ : ByteArray), 2, (⟨#[]⟩ : ByteArray)⟩ : S57), (⟨(⟨#[98, 111, 111, 116, 45, 108, 105, 109, 105, 116]⟩ : ByteArray), 1, (⟨#[53, 48, 48, 48]⟩ : ByteArray)⟩ : S57), (⟨(⟨#[105, 110, 112, 117, 116, 45, 100, 101, 118, 105, 99, 101]⟩ : ByteArray), 2, (⟨#[107, 101, 121, 98, 111, 97, 114, 100]⟩ : ByteArray)⟩ : S57), (⟨(⟨#[110, 118, 114, 97, 109, 114, 99]⟩ : ByteArray), 2, (⟨#[]⟩ : ByteArray)⟩ : S57), (⟨(⟨#[111, 101, 109, 45, 98, 97, 110, 110, 101, 114]⟩ : ByteArray), 2, (⟨#[]⟩ : ByteArray)⟩ : S57), (⟨(⟨#[115, 99, 114, 101, 101, 110, 45, 116, 117, 114, 110]⟩ : ByteArray), 1, (⟨#[48]⟩ : ByteArray)⟩ : S57), (⟨(⟨#[117, 115, 101, 45, 110, 118, 114, 97, 109, 114, 99, 63]⟩ : ByteArray), 0, (⟨#[102, 97, 108, 115, 101]⟩ : ByteArray)⟩ : S57)] : List (S57))) := ⟨_, rfl⟩
  replace H : (some y51001) = some r := by first | (rw [hy51001]; with_reducible exact H) | (have H2_ := (Option.bind_some _ _).symm.trans H; rw [hy51001]; with_reducible exact H2_) | (have H2_ := (Option.bind_some _ _).symm.trans H; with_reducible exact H2_) | with_reducible exact H | (rw [hy51001]; exact H) | exact H
  have Ny51001 := Aside0.mk hy51001
  clear hy51001
  obtain rfl := Option.some.inj H
  go_enter Tryd.func50, Tryd.ntmps50
  go_wp2_with (first | ((with_reducible refine gate_dst (N := 10) rfl ?_); refine Kd.R_lit k57 _ 57 ?hg (N := 10) ?hd (xs := ([(⟨(⟨#[97, 117, 116, 111, 45, 98, 111, 111, 116, 63]⟩ : ByteArray), 0, (⟨#[116, 114, 117, 101]⟩ : ByteArray)⟩ : S57), (⟨(⟨#[98, 111, 111, 116, 45, 100, 101, 118, 105, 99, 101]⟩ : ByteArray), 2, (⟨#[100, 105, 115, 107, 32, 110, 101, 116]⟩ : ByteArray)⟩ : S57), (⟨(⟨#[98, 111, 111, 116, 45, 102, 105, 108, 101]⟩ : ByteArray), 2, (⟨#[]⟩ : ByteArray)⟩ : S57), (⟨(⟨#[98, 111, 111, 116, 45, 108, 105, 109, 105, 116]⟩ : ByteArray), 1, (⟨#[53, 48, 48, 48]⟩ : ByteArray)⟩ : S57), (⟨(⟨#[105, 110, 112, 117, 116, 45, 100, 101, 118, 105, 99, 101]⟩ : ByteArray), 2, (⟨#[107, 101, 121, 98, 111, 97, 114, 100]⟩ : ByteArray)⟩ : S57), (⟨(⟨#[110, 118, 114, 97, 109, 114, 99]⟩ : ByteArray), 2, (⟨#[]⟩ : ByteArray)⟩ : S57), (⟨(⟨#[111, 101, 109, 45, 98, 97, 110, 110, 101, 114]⟩ : ByteArray), 2, (⟨#[]⟩ : ByteArray)⟩ : S57), (⟨(⟨#[115, 99, 114, 101, 101, 110, 45, 116, 117, 114, 110]⟩ : ByteArray), 1, (⟨#[48]⟩ : ByteArray)⟩ : S57), (⟨(⟨#[117, 115, 101, 45, 110, 118, 114, 97, 109, 114, 99, 63]⟩ : ByteArray), 0, (⟨#[102, 97, 108, 115, 101]⟩ : ByteArray)⟩ : S57)] : List (S57))) (inner := [.string (⟨#[97, 117, 116, 111, 45, 98, 111, 111, 116, 63]⟩ : ByteArray), .int .i64 0, .string (⟨#[116, 114, 117, 101]⟩ : ByteArray), .string (⟨#[98, 111, 111, 116, 45, 100, 101, 118, 105, 99, 101]⟩ : ByteArray), .int .i64 2, .string (⟨#[100, 105, 115, 107, 32, 110, 101, 116]⟩ : ByteArray), .string (⟨#[98, 111, 111, 116, 45, 102, 105, 108, 101]⟩ : ByteArray), .int .i64 2, .string (⟨#[]⟩ : ByteArray), .string (⟨#[98, 111, 111, 116, 45, 108, 105, 109, 105, 116]⟩ : ByteArray), .int .i64 1, .string (⟨#[53, 48, 48, 48]⟩ : ByteArray), .string (⟨#[105, 110, 112, 117, 116, 45, 100, 101, 118, 105, 99, 101]⟩ : ByteArray), .int .i64 2, .string (⟨#[107, 101, 121, 98, 111, 97, 114, 100]⟩ : ByteArray), .string (⟨#[110, 118, 114, 97, 109, 114, 99]⟩ : ByteArray), .int .i64 2, .string (⟨#[]⟩ : ByteArray), .string (⟨#[111, 101, 109, 45, 98, 97, 110, 110, 101, 114]⟩ : ByteArray), .int .i64 2, .string (⟨#[]⟩ : ByteArray), .string (⟨#[115, 99, 114, 101, 101, 110, 45, 116, 117, 114, 110]⟩ : ByteArray), .int .i64 1, .string (⟨#[48]⟩ : ByteArray), .string (⟨#[117, 115, 101, 45, 110, 118, 114, 97, 109, 114, 99, 63]⟩ : ByteArray), .int .i64 0, .string (⟨#[102, 97, 108, 115, 101]⟩ : ByteArray)]) (ok := fun _ => True) (okp := fun _ => True) ?hr ?hp (fun _ hk => hk) trivial (Below.refl _ _) (Nat.le_refl _) (by simp) ?_; (case hd => rfl); (case hg => rfl); (case hr => first | (go_simp; done) | (go_simp; rfl)); (case hp => exact (Reps.c3 (show Kd.M k57 _ _ _ (⟨(⟨#[97, 117, 116, 111, 45, 98, 111, 111, 116, 63]⟩ : ByteArray), 0, (⟨#[116, 114, 117, 101]⟩ : ByteArray)⟩ : S57) [.string (⟨#[97, 117, 116, 111, 45, 98, 111, 111, 116, 63]⟩ : ByteArray), .int .i64 0, .string (⟨#[116, 114, 117, 101]⟩ : ByteArray)] from (k57_mkM _ _ _ (⟨(⟨#[97, 117, 116, 111, 45, 98, 111, 111, 116, 63]⟩ : ByteArray), 0, (⟨#[116, 114, 117, 101]⟩ : ByteArray)⟩ : S57) )) (Reps.c3 (show Kd.M k57 _ _ _ (⟨(⟨#[98, 111, 111, 116, 45, 100, 101, 118, 105, 99, 101]⟩ : ByteArray), 2, (⟨#[100, 105, 115, 107, 32, 110, 101, 116]⟩ : ByteArray)⟩ : S57) [.string (⟨#[98, 111, 111, 116, 45, 100, 101, 118, 105, 99, 101]⟩ : ByteArray), .int .i64 2, .string (⟨#[100, 105, 115, 107, 32, 110, 101, 116]⟩ : ByteArray)] from (k57_mkM _ _ _ (⟨(⟨#[98, 111, 111, 116, 45, 100, 101, 118, 105, 99, 101]⟩ : ByteArray), 2, (⟨#[100, 105, 115, 107, 32, 110, 101, 116]⟩ : ByteArray)⟩ : S57) )) (Reps.c3 (show Kd.M k57 _ _ _ (⟨(⟨#[98, 111, 111, 116, 45, 102, 105, 108, 101]⟩ : ByteArray), 2, (⟨#[]⟩ : ByteArray)⟩ : S57) [.string (⟨#[98, 111, 111, 116, 45, 102, 105, 108, 101]⟩ : ByteArray), .int .i64 2, .string (⟨#[]⟩ : ByteArray)] from (k57_mkM _ _ _ (⟨(⟨#[98, 111, 111, 116, 45, 102, 105, 108, 101]⟩ : ByteArray), 2, (⟨#[]⟩ : ByteArray)⟩ : S57) )) (Reps.c3 (show Kd.M k57 _ _ _ (⟨(⟨#[98, 111, 111, 116, 45, 108, 105, 109, 105, 116]⟩ : ByteArray), 1, (⟨#[53, 48, 48, 48]⟩ : ByteArray)⟩ : S57) [.string (⟨#[98, 111, 111, 116, 45, 108, 105, 109, 105, 116]⟩ : ByteArray), .int .i64 1, .string (⟨#[53, 48, 48, 48]⟩ : ByteArray)] from (k57_mkM _ _ _ (⟨(⟨#[98, 111, 111, 116, 45, 108, 105, 109, 105, 116]⟩ : ByteArray), 1, (⟨#[53, 48, 48, 48]⟩ : ByteArray)⟩ : S57) )) (Reps.c3 (show Kd.M k57 _ _ _ (⟨(⟨#[105, 110, 112, 117, 116, 45, 100, 101, 118, 105, 99, 101]⟩ : ByteArray), 2, (⟨#[107, 101, 121, 98, 111, 97, 114, 100]⟩ : ByteArray)⟩ : S57) [.string (⟨#[105, 110, 112, 117, 116, 45, 100, 101, 118, 105, 99, 101]⟩ : ByteArray), .int .i64 2, .string (⟨#[107, 101, 121, 98, 111, 97, 114, 100]⟩ : ByteArray)] from (k57_mkM _ _ _ (⟨(⟨#[105, 110, 112, 117, 116, 45, 100, 101, 118, 105, 99, 101]⟩ : ByteArray), 2, (⟨#[107, 101, 121, 98, 111, 97, 114, 100]⟩ : ByteArray)⟩ : S57) )) (Reps.c3 (show Kd.M k57 _ _ _ (⟨(⟨#[110, 118, 114, 97, 109, 114, 99]⟩ : ByteArray), 2, (⟨#[]⟩ : ByteArray)⟩ : S57) [.string (⟨#[110, 118, 114, 97, 109, 114, 99]⟩ : ByteArray), .int .i64 2, .string (⟨#[]⟩ : ByteArray)] from (k57_mkM _ _ _ (⟨(⟨#[110, 118, 114, 97, 109, 114, 99]⟩ : ByteArray), 2, (⟨#[]⟩ : ByteArray)⟩ : S57) )) (Reps.c3 (show Kd.M k57 _ _ _ (⟨(⟨#[111, 101, 109, 45, 98, 97, 110, 110, 101, 114]⟩ : ByteArray), 2, (⟨#[]⟩ : ByteArray)⟩ : S57) [.string (⟨#[111, 101, 109, 45, 98, 97, 110, 110, 101, 114]⟩ : ByteArray), .int .i64 2, .string (⟨#[]⟩ : ByteArray)] from (k57_mkM _ _ _ (⟨(⟨#[111, 101, 109, 45, 98, 97, 110, 110, 101, 114]⟩ : ByteArray), 2, (⟨#[]⟩ : ByteArray)⟩ : S57) )) (Reps.c3 (show Kd.M k57 _ _ _ (⟨(⟨#[115, 99, 114, 101, 101, 110, 45, 116, 117, 114, 110]⟩ : ByteArray), 1, (⟨#[48]⟩ : ByteArray)⟩ : S57) [.string (⟨#[115, 99, 114, 101, 101, 110, 45, 116, 117, 114, 110]⟩ : ByteArray), .int .i64 1, .string (⟨#[48]⟩ : ByteArray)] from (k57_mkM _ _ _ (⟨(⟨#[115, 99, 114, 101, 101, 110, 45, 116, 117, 114, 110]⟩ : ByteArray), 1, (⟨#[48]⟩ : ByteArray)⟩ : S57) )) (Reps.c3 (show Kd.M k57 _ _ _ (⟨(⟨#[117, 115, 101, 45, 110, 118, 114, 97, 109, 114, 99, 63]⟩ : ByteArray), 0, (⟨#[102, 97, 108, 115, 101]⟩ : ByteArray)⟩ : S57) [.string (⟨#[117, 115, 101, 45, 110, 118, 114, 97, 109, 114, 99, 63]⟩ : ByteArray), .int .i64 0, .string (⟨#[102, 97, 108, 115, 101]⟩ : ByteArray)] from (k57_mkM _ _ _ (⟨(⟨#[117, 115, 101, 45, 110, 118, 114, 97, 109, 114, 99, 63]⟩ : ByteArray), 0, (⟨#[102, 97, 108, 115, 101]⟩ : ByteArray)⟩ : S57) )) (Reps.none _ _))))))))))); intro v51002 w1 ho2 hb hg_ hnew_; clear hg_ hnew_; (first | rw [← Ny51001.out] at ho2 | (simp only [Int.reduceToNat] at ho2; rw [← Ny51001.out] at ho2)); have n0_ := Aside0.mk (Kd.R_lower ho2 (below_size (by repeat (first | (with_reducible first | exact HB.out | apply below_alloc | apply pw_below_drewN | apply below_drew1) | exact HB.out)))); have n1_ := Aside0.mk (below_step (by repeat (first | (with_reducible first | exact HB.out | apply below_alloc | apply pw_below_drewN | apply below_drew1) | exact HB.out)) hb); clear HB; have HO51003 := n0_; have HB := n1_; clear n0_ n1_; clear hb ho2))
  go_ret
  exact ⟨_, by first | rfl | (simp [errW_none, errW_some] <;> rfl) | (simp [*, errW_none, errW_some] <;> rfl), by (with_reducible repeat (first | apply Kd.R_alloc | apply Kd.R_drewN | apply Kd.R_drew)); exact HO51003.out, by repeat (first | (with_reducible first | exact HB.out | apply below_alloc | apply pw_below_drewN | apply below_drew1) | exact HB.out)⟩

end Go.Proofs.YtefhngadeimklaaDoor.Q
end
section
namespace Go.Proofs.YtefhngadeimklaaDoor.Q
open Go.RowKit Go.Proofs.YtefhngadeimklaaDoorW.PrintWords Go.Proofs.YtefhngadeimklaaDoorW.PrintLast Go.Proofs.YtefhngadeimklaaDoorW.PrintMore
set_option linter.unusedVariables false
set_option linter.unusedSimpArgs false

attribute [local go_sem] max2_int min2_int max_two min_two max_three min_three max_four min_four
/-! ### vars_find: function 37 -/
def vars_find.l0 : Nat → ByteArray → List (S57) → Int → Int → Option (ByteArray × Int × ByteArray × Int × Bool)
  | 0, _, _, _, _ => none
  | k + 1, x0, x7, x8, x9 => if x9 < x8 then (if 0 ≤ x9 then (if x9 < (x7.length : Int) then (if ((rd_T57 x7 x9).f0).toList = x0.toList then (some ((rd_T57 x7 x9).f0, (rd_T57 x7 x9).f1, (rd_T57 x7 x9).f2, x9, true)) else (vars_find.l0 k x0 x7 x8 (wrap64 (x9 + 1)))) else (none)) else (none)) else (some ((⟨#[]⟩ : ByteArray), 0, (⟨#[]⟩ : ByteArray), (-1), false))
def vars_find.f (k : Nat) (a0 : ByteArray) : Option (ByteArray × Int × ByteArray × Int × Bool) := (vars_all.f).bind fun t38002 => (vars_find.l0 k a0 t38002 (t38002.length : Int) 0)
set_option maxHeartbeats 8000000 in
set_option maxRecDepth 100000 in
theorem vars_find.calls (k : Nat) (a0 : ByteArray) (r1 : ByteArray) (r2 : Int) (r3 : ByteArray) (r4 : Int) (r5 : Bool) (w : World) (h : vars_find.f k a0 = some (r1, r2, r3, r4, r5)) :
    Calls Tryd.prog 37 #[.string a0] w fun e w' => e = .returned (.tuple #[.agg #[.string r1, .int .i64 r2, .string r3], .int .i64 r4, .bool r5]) ∧ Below w.heap.size w w' := by
  have hu57 := Tryd.underlying57
  have HB := Aside0.mk (Below.refl w.heap.size w)
  have H : ((vars_all.f).bind fun t38002 => (vars_find.l0 k a0 t38002 (t38002.length : Int) 0)) = some (r1, r2, r3, r4, r5) := h
  clear h
  replace H := Option.bind_eq_some_iff.mp H
  obtain ⟨t38002, A20, H⟩ := H
  replace H : (vars_find.l0 k a0 t38002 (t38002.length : Int) 0) = some (r1, r2, r3, r4, r5) := H
  have A2 := Aside0.mk A20
  clear A20
  have H' := Aside0.mk H
  clear H
  go_enter Tryd.func37, Tryd.ntmps37
  go_wp2_with (first | ((with_reducible refine gate_dst (N := 2) rfl ?_); refine box_event ?hg (N := 2) ?hd (cs := #[.string (⟨#[]⟩ : ByteArray), .int .i64 0, .string (⟨#[]⟩ : ByteArray)]) (t := 57) ?hr ?_; (case hd => rfl); (case hg => rfl); (case hr => first | (go_simp; done) | (go_simp; rfl)); intro gb38001 hg w3 hbox hb; have n0_ := Aside0.mk (below_step (by repeat (first | (with_reducible first | exact HB.out | apply below_alloc | apply pw_below_drewN | apply below_drew1) | exact HB.out)) hb); have n1_ := Aside0.mk (hbox); have n2_ := Aside0.mk ((by rw [hg]; exact (below_size (by repeat (first | (with_reducible first | exact HB.out | apply below_alloc | apply pw_below_drewN | apply below_drew1) | exact HB.out))) : w.heap.size ≤ gb38001)); have n3_ := Aside0.mk ((by rw [hg]; exact (below_size (by repeat (first | (with_reducible first | exact HB.out | apply below_alloc | apply pw_below_drewN | apply below_drew1) | exact HB.out))) : w.heap.size ≤ gb38001)); clear HB; have HB := n0_; have BK38001 := n1_; have GW38001 := n2_; have GE38001 := n3_; clear n0_ n1_ n2_ n3_; clear hb hbox hg) | ((with_reducible refine gate_callee (f := 50) rfl ?_); refine goesL_ (some 7) rfl rfl Tryd.func50 (by kernel_rfl) rfl #[] rfl (by (try simp only [List.map_toArray, List.map_cons, List.map_nil]); first | done | rfl | (simp only [List.length_drop, List.length_take]; rfl)) ?_; (with_reducible refine (vars_all.calls  t38002 _ A2.out).mono ?_); rintro e w4 ⟨v38003, rfl, ho0, hb⟩; refine ⟨_, rfl, ?_⟩; have n0_ := Aside0.mk (Kd.R_lower (Kd.R_newB ho0 (g := gb38001) (o := .cells #[.string (⟨#[]⟩ : ByteArray), .int .i64 0, .string (⟨#[]⟩ : ByteArray)] 57 (0, 0)) (by (with_reducible repeat (first | refine blk_drewN ?_ _ | refine blk_drew ?_ | refine blk_alloc ?_ _)); exact BK38001.out)) (below_size (by repeat (first | (with_reducible first | exact HB.out | apply below_alloc | apply pw_below_drewN | apply below_drew1 | refine below_set ?_ GE38001.out) | exact HB.out)))); have n1_ := Aside0.mk (blk_below (g := gb38001) (o := .cells #[.string (⟨#[]⟩ : ByteArray), .int .i64 0, .string (⟨#[]⟩ : ByteArray)] 57 (0, 0)) (by (with_reducible repeat (first | refine blk_drewN ?_ _ | refine blk_drew ?_ | refine blk_alloc ?_ _)); exact BK38001.out) hb); have n2_ := Aside0.mk (below_step (by repeat (first | (with_reducible first | exact HB.out | apply below_alloc | apply pw_below_drewN | apply below_drew1 | refine below_set ?_ GE38001.out) | exact HB.out)) hb); clear BK38001; clear HB; have HO38004 := n0_; have BK38001 := n1_; have HB := n2_; clear n0_ n1_ n2_; (try clear hb); (try clear hb2); (try clear hk); (try clear hi); (try clear ho0); obtain ⟨Ao5, co5, eo5⟩ := Kd.R_slice HO38004.out; subst eo5))
  go_loopg [9] k (fun kq v9 w' => ∃ (x9_1 : Int) (x38002000_1 : ByteArray) (x38002001_1 : Int) (x38002002_1 : ByteArray), v9 = .int .i64 x9_1 ∧ Aside0 (vars_find.l0 kq a0 t38002 (t38002.length : Int) x9_1 = some (r1, r2, r3, r4, r5)) ∧ Aside0 (kq ≤ k) ∧ Aside0 (Kd.R k57 57 w' w.heap.size (fun k_ => k_ ≠ gb38001) (.slice Ao5 t38002.length co5) t38002) ∧ Aside0 (w'.heap[gb38001]? = some (.cells #[.string x38002000_1, .int .i64 x38002001_1, .string x38002002_1] 57 (0, 0))) ∧ Aside0 (Below w.heap.size w w'))
  case atStart => exact ⟨(0), ((⟨#[]⟩ : ByteArray)), (0), ((⟨#[]⟩ : ByteArray)), (by first | rfl | (simp; done) | (simp [*]; done)), H', ⟨Nat.le_refl _⟩, ⟨by (with_reducible repeat (first | apply Kd.R_alloc | apply Kd.R_drewN | apply Kd.R_drew)); exact Kd.R_mono HO38004.out (fun _ hk => hk.2)⟩, ⟨by (with_reducible repeat (first | refine blk_drewN ?_ _ | refine blk_drew ?_ | refine blk_alloc ?_ _)); exact BK38001.out⟩, ⟨by repeat (first | (with_reducible first | exact HB.out | apply below_alloc | apply pw_below_drewN | apply below_drew1 | refine below_set ?_ GE38001.out) | exact HB.out)⟩⟩
  case round =>
    clear H'
    try clear p2
    try clear c3
    try clear c5
    obtain ⟨x9_1, x38002000_1, x38002001_1, x38002002_1, rfl, HA, HK1, HO_7, BK38001, HB⟩ := hrel
    cases gk with
    | zero => exact absurd HA.out (by simp [vars_find.l0])
    | succ k1 =>
      have H := HA.out
      clear HA
      simp only [vars_find.l0] at H
      by_cases c6 : x9_1 < (t38002.length : Int)
      · rw [if_pos c6] at H
        have c6b0 : decide (x9_1 < (t38002.length : Int)) = true := decide_eq_true c6
        clear c6
        by_cases c7 : 0 ≤ x9_1
        · rw [if_pos c7] at H
          have c7b0 : decide (0 ≤ x9_1) = true := decide_eq_true c7
          clear c7
          by_cases c8 : x9_1 < (t38002.length : Int)
          · rw [if_pos c8] at H
            have c8b0 : decide (x9_1 < (t38002.length : Int)) = true := decide_eq_true c8
            clear c8
            by_cases c9 : ((rd_T57 t38002 x9_1).f0).toList = a0.toList
            · rw [if_pos c9] at H
              have c9b0 : (((rd_T57 t38002 x9_1).f0).toList == a0.toList) = true := beq_iff_eq.mpr c9
              have c9b1 : (((rd_T57 t38002 x9_1).f0).toList != a0.toList) = false := bne_eq_false_iff_eq.mpr c9
              clear c9
              simp only [Option.some.injEq, Prod.mk.injEq] at H
              obtain ⟨rfl, rfl, rfl, rfl, rfl⟩ := H
              have p38005 : 0 ≤ (x9_1 : Int) := of_decide_eq_true (by first | (with_reducible assumption) | assumption)
              have q38005 : x9_1 < (t38002.length : Int) := of_decide_eq_true (by first | (with_reducible assumption) | assumption)
              obtain ⟨ad38005, e38005, hx38005_0, hx38005_1, hx38005_2⟩ := at_T57 (Kd.R_reads' HO_7.out).2.2 x9_1 p38005 q38005
              cases e38005
              replace p38005 := eq_true p38005
              replace q38005 := eq_true q38005
              go_wp2_with (first | ((with_reducible refine gate_dst (N := 6) rfl ?_); refine box_event ?hg (N := 6) ?hd (cs := #[.string (⟨#[]⟩ : ByteArray), .int .i64 0, .string (⟨#[]⟩ : ByteArray)]) (t := 57) ?hr ?_; (case hd => rfl); (case hg => rfl); (case hr => first | (go_simp; done) | (go_simp; rfl)); intro gb38006 hg w10 hbox hb; have n0_ := Aside0.mk (Kd.R_below (Kd.R_elderB (by (with_reducible repeat (first | apply Kd.R_alloc | apply Kd.R_drewN | apply Kd.R_drew)); exact HO_7.out) gb38006 (Nat.le_of_eq hg.symm)) hb); have n1_ := Aside0.mk (blk_below (g := gb38001) (o := .cells #[.string x38002000_1, .int .i64 x38002001_1, .string x38002002_1] 57 (0, 0)) (by (with_reducible repeat (first | refine blk_drewN ?_ _ | refine blk_drew ?_ | refine blk_alloc ?_ _)); exact BK38001.out) hb); have n2_ := Aside0.mk (below_step (by repeat (first | (with_reducible first | exact HB.out | apply below_alloc | apply pw_below_drewN | apply below_drew1 | refine below_set ?_ GE38001.out) | exact HB.out)) hb); have n3_ := Aside0.mk (hbox); have n4_ := Aside0.mk ((by rw [hg]; exact (below_size (by repeat (first | (with_reducible first | exact HB.out | apply below_alloc | apply pw_below_drewN | apply below_drew1 | refine below_set ?_ GE38001.out) | exact HB.out))) : w.heap.size ≤ gb38006)); have n5_ := Aside0.mk ((by rw [hg]; exact (below_size (by repeat (first | (with_reducible first | exact HB.out | apply below_alloc | apply pw_below_drewN | apply below_drew1 | refine below_set ?_ GE38001.out) | exact HB.out))) : w.heap.size ≤ gb38006)); have n6_ := Aside0.mk ((by rw [hg]; exact Nat.ne_of_lt (blk_lt (g := gb38001) (o := .cells #[.string x38002000_1, .int .i64 x38002001_1, .string x38002002_1] 57 (0, 0)) (by (with_reducible repeat (first | refine blk_drewN ?_ _ | refine blk_drew ?_ | refine blk_alloc ?_ _)); exact BK38001.out)) : gb38001 ≠ gb38006)); have n7_ := Aside0.mk ((by rw [hg]; exact Nat.ne_of_gt (blk_lt (g := gb38001) (o := .cells #[.string x38002000_1, .int .i64 x38002001_1, .string x38002002_1] 57 (0, 0)) (by (with_reducible repeat (first | refine blk_drewN ?_ _ | refine blk_drew ?_ | refine blk_alloc ?_ _)); exact BK38001.out)) : gb38006 ≠ gb38001)); clear HO_7; clear BK38001; clear HB; have HO_7 := n0_; have BK38001 := n1_; have HB := n2_; have BK38006 := n3_; have GW38006 := n4_; have GE38006 := n5_; have NB38001_38006 := n6_; have NB38006_38001 := n7_; clear n0_ n1_ n2_ n3_ n4_ n5_ n6_ n7_; clear hb hbox hg; have hnb11 := NB38006_38001.out; have hnc11 := NB38001_38006.out; have hcz12_0 : w10.cell? ⟨gb38006, 0, none⟩ = some (.string (⟨#[]⟩ : ByteArray)) := (blk_cell BK38006.out 0).trans rfl; have hcz12_1 : w10.cell? ⟨gb38006, 1, none⟩ = some (.int .i64 0) := (blk_cell BK38006.out 1).trans rfl; have hcz12_2 : w10.cell? ⟨gb38006, 2, none⟩ = some (.string (⟨#[]⟩ : ByteArray)) := (blk_cell BK38006.out 2).trans rfl; have hfz12_0 := blk_frozen BK38006.out 0; have hfz12_1 := blk_frozen BK38006.out 1; have hfz12_2 := blk_frozen BK38006.out 2; have hcz13_0 : w10.cell? ⟨gb38001, 0, none⟩ = some (.string x38002000_1) := (blk_cell BK38001.out 0).trans rfl; have hcz13_1 : w10.cell? ⟨gb38001, 1, none⟩ = some (.int .i64 x38002001_1) := (blk_cell BK38001.out 1).trans rfl; have hcz13_2 : w10.cell? ⟨gb38001, 2, none⟩ = some (.string x38002002_1) := (blk_cell BK38001.out 2).trans rfl; have hfz13_0 := blk_frozen BK38001.out 0; have hfz13_1 := blk_frozen BK38001.out 1; have hfz13_2 := blk_frozen BK38001.out 2))
              refine bodyPost_ret (results_ctt rfl _ _ gb38001 57 #[.string ((rd_T57 t38002 x9_1).f0), .int .i64 ((rd_T57 t38002 x9_1).f1), .string ((rd_T57 t38002 x9_1).f2)] (0, 0) _ rfl (by (with_reducible repeat (first | refine blk_drewN ?_ _ | refine blk_drew ?_ | refine blk_alloc ?_ _)); refine blk_put (cs := #[.string ((rd_T57 t38002 x9_1).f0), .int .i64 ((rd_T57 t38002 x9_1).f1), .string x38002002_1]) ?_ 2 _ rfl; (with_reducible repeat (first | refine blk_drewN ?_ _ | refine blk_drew ?_ | refine blk_alloc ?_ _)); refine blk_put (cs := #[.string ((rd_T57 t38002 x9_1).f0), .int .i64 x38002001_1, .string x38002002_1]) ?_ 1 _ rfl; (with_reducible repeat (first | refine blk_drewN ?_ _ | refine blk_drew ?_ | refine blk_alloc ?_ _)); refine blk_put (cs := #[.string x38002000_1, .int .i64 x38002001_1, .string x38002002_1]) ?_ 0 _ rfl; (with_reducible repeat (first | refine blk_drewN ?_ _ | refine blk_drew ?_ | refine blk_alloc ?_ _)); refine blk_far ?_ NB38001_38006.out _; (with_reducible repeat (first | refine blk_drewN ?_ _ | refine blk_drew ?_ | refine blk_alloc ?_ _)); refine blk_far ?_ NB38001_38006.out _; (with_reducible repeat (first | refine blk_drewN ?_ _ | refine blk_drew ?_ | refine blk_alloc ?_ _)); refine blk_far ?_ NB38001_38006.out _; (with_reducible repeat (first | refine blk_drewN ?_ _ | refine blk_drew ?_ | refine blk_alloc ?_ _)); exact BK38001.out) Tryd.underlying57 rfl (by kernel_rfl)) rfl ?_
              exact ⟨by first | rfl | (simp [errW_none, errW_some] <;> rfl) | (simp [*, errW_none, errW_some] <;> rfl), by repeat (first | (with_reducible first | exact HB.out | apply below_alloc | apply pw_below_drewN | apply below_drew1 | refine below_set ?_ GE38001.out | refine below_set ?_ GE38006.out) | exact HB.out)⟩
            · rw [if_neg c9] at H
              have c9b0 : (((rd_T57 t38002 x9_1).f0).toList == a0.toList) = false := beq_eq_false_iff_ne.mpr c9
              have c9b1 : (((rd_T57 t38002 x9_1).f0).toList != a0.toList) = true := bne_iff_ne.mpr c9
              have H' := Aside0.mk H
              clear H
              have p38005 : 0 ≤ (x9_1 : Int) := of_decide_eq_true (by first | (with_reducible assumption) | assumption)
              have q38005 : x9_1 < (t38002.length : Int) := of_decide_eq_true (by first | (with_reducible assumption) | assumption)
              obtain ⟨ad38005, e38005, hx38005_0, hx38005_1, hx38005_2⟩ := at_T57 (Kd.R_reads' HO_7.out).2.2 x9_1 p38005 q38005
              cases e38005
              replace p38005 := eq_true p38005
              replace q38005 := eq_true q38005
              go_wp2_with (first | ((with_reducible refine gate_dst (N := 6) rfl ?_); refine box_event ?hg (N := 6) ?hd (cs := #[.string (⟨#[]⟩ : ByteArray), .int .i64 0, .string (⟨#[]⟩ : ByteArray)]) (t := 57) ?hr ?_; (case hd => rfl); (case hg => rfl); (case hr => first | (go_simp; done) | (go_simp; rfl)); intro gb38006 hg w14 hbox hb; have n0_ := Aside0.mk (Kd.R_below (Kd.R_elderB (by (with_reducible repeat (first | apply Kd.R_alloc | apply Kd.R_drewN | apply Kd.R_drew)); exact HO_7.out) gb38006 (Nat.le_of_eq hg.symm)) hb); have n1_ := Aside0.mk (blk_below (g := gb38001) (o := .cells #[.string x38002000_1, .int .i64 x38002001_1, .string x38002002_1] 57 (0, 0)) (by (with_reducible repeat (first | refine blk_drewN ?_ _ | refine blk_drew ?_ | refine blk_alloc ?_ _)); exact BK38001.out) hb); have n2_ := Aside0.mk (below_step (by repeat (first | (with_reducible first | exact HB.out | apply below_alloc | apply pw_below_drewN | apply below_drew1 | refine below_set ?_ GE38001.out) | exact HB.out)) hb); have n3_ := Aside0.mk (hbox); have n4_ := Aside0.mk ((by rw [hg]; exact (below_size (by repeat (first | (with_reducible first | exact HB.out | apply below_alloc | apply pw_below_drewN | apply below_drew1 | refine below_set ?_ GE38001.out) | exact HB.out))) : w.heap.size ≤ gb38006)); have n5_ := Aside0.mk ((by rw [hg]; exact (below_size (by repeat (first | (with_reducible first | exact HB.out | apply below_alloc | apply pw_below_drewN | apply below_drew1 | refine below_set ?_ GE38001.out) | exact HB.out))) : w.heap.size ≤ gb38006)); have n6_ := Aside0.mk ((by rw [hg]; exact Nat.ne_of_lt (blk_lt (g := gb38001) (o := .cells #[.string x38002000_1, .int .i64 x38002001_1, .string x38002002_1] 57 (0, 0)) (by (with_reducible repeat (first | refine blk_drewN ?_ _ | refine blk_drew ?_ | refine blk_alloc ?_ _)); exact BK38001.out)) : gb38001 ≠ gb38006)); have n7_ := Aside0.mk ((by rw [hg]; exact Nat.ne_of_gt (blk_lt (g := gb38001) (o := .cells #[.string x38002000_1, .int .i64 x38002001_1, .string x38002002_1] 57 (0, 0)) (by (with_reducible repeat (first | refine blk_drewN ?_ _ | refine blk_drew ?_ | refine blk_alloc ?_ _)); exact BK38001.out)) : gb38006 ≠ gb38001)); clear HO_7; clear BK38001; clear HB; have HO_7 := n0_; have BK38001 := n1_; have HB := n2_; have BK38006 := n3_; have GW38006 := n4_; have GE38006 := n5_; have NB38001_38006 := n6_; have NB38006_38001 := n7_; clear n0_ n1_ n2_ n3_ n4_ n5_ n6_ n7_; clear hb hbox hg; have hnb15 := NB38006_38001.out; have hnc15 := NB38001_38006.out; have hcz16_0 : w14.cell? ⟨gb38006, 0, none⟩ = some (.string (⟨#[]⟩ : ByteArray)) := (blk_cell BK38006.out 0).trans rfl; have hcz16_1 : w14.cell? ⟨gb38006, 1, none⟩ = some (.int .i64 0) := (blk_cell BK38006.out 1).trans rfl; have hcz16_2 : w14.cell? ⟨gb38006, 2, none⟩ = some (.string (⟨#[]⟩ : ByteArray)) := (blk_cell BK38006.out 2).trans rfl; have hfz16_0 := blk_frozen BK38006.out 0; have hfz16_1 := blk_frozen BK38006.out 1; have hfz16_2 := blk_frozen BK38006.out 2))
              go_roundg k1
              case measure => have := HK1.out; omega
              case rel => exact ⟨(wrap64 (x9_1 + 1)), (x38002000_1), (x38002001_1), (x38002002_1), (by first | rfl | (simp; done) | (simp [*]; done)), H', ⟨by have := HK1.out; omega⟩, ⟨by (with_reducible repeat (first | apply Kd.R_alloc | apply Kd.R_drewN | apply Kd.R_drew)); exact Kd.R_mono (Kd.R_far (p := ⟨gb38006, 2, none⟩) (Kd.R_far (p := ⟨gb38006, 1, none⟩) (Kd.R_far (p := ⟨gb38006, 0, none⟩) (Kd.R_mono HO_7.out (fun k_ hk => (⟨hk, hk.2⟩ : _ ∧ k_ ≠ gb38006))) (fun _ hk => hk.2) (.string ((rd_T57 t38002 x9_1).f0))) (fun _ hk => hk.2) (.int .i64 ((rd_T57 t38002 x9_1).f1))) (fun _ hk => hk.2) (.string ((rd_T57 t38002 x9_1).f2))) (fun _ hk => hk.1.1)⟩, ⟨by (with_reducible repeat (first | refine blk_drewN ?_ _ | refine blk_drew ?_ | refine blk_alloc ?_ _)); refine blk_far ?_ NB38001_38006.out _; (with_reducible repeat (first | refine blk_drewN ?_ _ | refine blk_drew ?_ | refine blk_alloc ?_ _)); refine blk_far ?_ NB38001_38006.out _; (with_reducible repeat (first | refine blk_drewN ?_ _ | refine blk_drew ?_ | refine blk_alloc ?_ _)); refine blk_far ?_ NB38001_38006.out _; (with_reducible repeat (first | refine blk_drewN ?_ _ | refine blk_drew ?_ | refine blk_alloc ?_ _)); exact BK38001.out⟩, ⟨by repeat (first | (with_reducible first | exact HB.out | apply below_alloc | apply pw_below_drewN | apply below_drew1 | refine below_set ?_ GE38001.out | refine below_set ?_ GE38006.out) | exact HB.out)⟩⟩
          · rw [if_neg c8] at H
            exact absurd H (by simp)
        · rw [if_neg c7] at H
          exact absurd H (by simp)
      · rw [if_neg c6] at H
        have c6b0 : decide (x9_1 < (t38002.length : Int)) = false := decide_eq_false c6
        clear c6
        simp only [Option.some.injEq, Prod.mk.injEq] at H
        obtain ⟨rfl, rfl, rfl, rfl, rfl⟩ := H
        have hcz17_0 : wr.cell? ⟨gb38001, 0, none⟩ = some (.string x38002000_1) := (blk_cell BK38001.out 0).trans rfl
        have hcz17_1 : wr.cell? ⟨gb38001, 1, none⟩ = some (.int .i64 x38002001_1) := (blk_cell BK38001.out 1).trans rfl
        have hcz17_2 : wr.cell? ⟨gb38001, 2, none⟩ = some (.string x38002002_1) := (blk_cell BK38001.out 2).trans rfl
        have hfz17_0 := blk_frozen BK38001.out 0
        have hfz17_1 := blk_frozen BK38001.out 1
        have hfz17_2 := blk_frozen BK38001.out 2
        go_wp2
        refine bodyPost_ret (results_ctt rfl _ _ gb38001 57 #[.string (⟨#[]⟩ : ByteArray), .int .i64 0, .string (⟨#[]⟩ : ByteArray)] (0, 0) _ rfl (by (with_reducible repeat (first | refine blk_drewN ?_ _ | refine blk_drew ?_ | refine blk_alloc ?_ _)); refine blk_put (cs := #[.string (⟨#[]⟩ : ByteArray), .int .i64 0, .string x38002002_1]) ?_ 2 _ rfl; (with_reducible repeat (first | refine blk_drewN ?_ _ | refine blk_drew ?_ | refine blk_alloc ?_ _)); refine blk_put (cs := #[.string (⟨#[]⟩ : ByteArray), .int .i64 x38002001_1, .string x38002002_1]) ?_ 1 _ rfl; (with_reducible repeat (first | refine blk_drewN ?_ _ | refine blk_drew ?_ | refine blk_alloc ?_ _)); refine blk_put (cs := #[.string x38002000_1, .int .i64 x38002001_1, .string x38002002_1]) ?_ 0 _ rfl; (with_reducible repeat (first | refine blk_drewN ?_ _ | refine blk_drew ?_ | refine blk_alloc ?_ _)); exact BK38001.out) Tryd.underlying57 rfl (by kernel_rfl)) rfl ?_
        exact ⟨by first | rfl | (simp [errW_none, errW_some] <;> rfl) | (simp [*, errW_none, errW_some] <;> rfl), by repeat (first | (with_reducible first | exact HB.out | apply below_alloc | apply pw_below_drewN | apply below_drew1 | refine below_set ?_ GE38001.out) | exact HB.out)⟩

end Go.Proofs.YtefhngadeimklaaDoor.Q
end
section
namespace Go.Proofs.YtefhngadeimklaaDoor.Q
open Go.RowKit Go.Proofs.YtefhngadeimklaaDoorW.PrintWords Go.Proofs.YtefhngadeimklaaDoorW.PrintLast Go.Proofs.YtefhngadeimklaaDoorW.PrintMore
set_option linter.unusedVariables false
set_option linter.unusedSimpArgs false

attribute [local go_sem] max2_int min2_int max_two min_two max_three min_three max_four min_four
/-! ### vars_variable_form: function 45 -/
def vars_variable_form.l0 : Nat → ByteArray → Int → Int → Option (ByteArray × Bool)
  | 0, _, _, _ => none
  | k + 1, x1, x38, x39 => if x39 < x38 then (if 0 ≤ x39 then (if x39 < (x1.size : Int) then (if (bt x1 x39) < 32 then (some ((⟨#[]⟩ : ByteArray), false)) else (if (bt x1 x39) > 126 then (some ((⟨#[]⟩ : ByteArray), false)) else (vars_variable_form.l0 k x1 x38 (wrap64 (x39 + 1))))) else (none)) else (none)) else (some (x1, decide ((x1.size : Int) ≤ 128)))
def vars_variable_form.f (k : Nat) (a0_0 : ByteArray) (a0_1 : Int) (a0_2 : ByteArray) (a1 : ByteArray) : Option (ByteArray × Bool) := if a0_1 = 0 then (if a1.toList = ([116, 114, 117, 101] : List UInt8) then (some (a1, true)) else (some (a1, (a1.toList == ([102, 97, 108, 115, 101] : List UInt8))))) else (if a0_1 = 1 then ((digit_Parse.f k a1 10).bind fun bt46002 => (if bt46002.2 = 0 then ((digit_Show.f bt46002.1 10).bind fun bt46004 => (some (bt46004.1, (bt46004.2 == 0)))) else (some ((⟨#[]⟩ : ByteArray), false)))) else (vars_variable_form.l0 k a1 (a1.size : Int) 0))
set_option maxHeartbeats 8000000 in
set_option maxRecDepth 100000 in
theorem vars_variable_form.calls (k : Nat) (a0_0 : ByteArray) (a0_1 : Int) (a0_2 : ByteArray) (a1 : ByteArray) (r1 : ByteArray) (r2 : Bool) (w : World) (ht : Tabs w) (h : vars_variable_form.f k a0_0 a0_1 a0_2 a1 = some (r1, r2)) :
    Calls Tryd.prog 45 #[.agg #[.string a0_0, .int .i64 a0_1, .string a0_2], .string a1] w fun e w' => e = .returned (.tuple #[.string r1, .bool r2]) ∧ Below w.heap.size w w' := by
  have hu57 := Tryd.underlying57
  have HB := Aside0.mk (Below.refl w.heap.size w)
  have H : (if a0_1 = 0 then (if a1.toList = ([116, 114, 117, 101] : List UInt8) then (some (a1, true)) else (some (a1, (a1.toList == ([102, 97, 108, 115, 101] : List UInt8))))) else (if a0_1 = 1 then ((digit_Parse.f k a1 10).bind fun bt46002 => (if bt46002.2 = 0 then ((digit_Show.f bt46002.1 10).bind fun bt46004 => (some (bt46004.1, (bt46004.2 == 0)))) else (some ((⟨#[]⟩ : ByteArray), false)))) else (vars_variable_form.l0 k a1 (a1.size : Int) 0))) = some (r1, r2) := h
  clear h
  by_cases c3 : a0_1 = 0
  · rw [if_pos c3] at H
    have c3b0 : (a0_1 == 0) = true := beq_iff_eq.mpr c3
    have c3b1 : (a0_1 != 0) = false := bne_eq_false_iff_eq.mpr c3
    clear c3
    by_cases c4 : a1.toList = ([116, 114, 117, 101] : List UInt8)
    · rw [if_pos c4] at H
      have c4b0 : (a1.toList == ([116, 114, 117, 101] : List UInt8)) = true := beq_iff_eq.mpr c4
      have c4b1 : (a1.toList != ([116, 114, 117, 101] : List UInt8)) = false := bne_eq_false_iff_eq.mpr c4
      clear c4
      simp only [Option.some.injEq, Prod.mk.injEq] at H
      obtain ⟨rfl, rfl⟩ := H
      go_enter Tryd.func45, Tryd.ntmps45
      go_wp2_with (first | ((with_reducible refine gate_dst (N := 2) rfl ?_); refine box_event ?hg (N := 2) ?hd (cs := #[.string a0_0, .int .i64 a0_1, .string a0_2]) (t := 57) ?hr ?_; (case hd => rfl); (case hg => rfl); (case hr => first | (go_simp; done) | (go_simp; rfl)); intro gb46001 hg w5 hbox hb; have n0_ := Aside0.mk (below_step (by repeat (first | (with_reducible first | exact HB.out | apply below_alloc | apply pw_below_drewN | apply below_drew1) | exact HB.out)) hb); have n1_ := Aside0.mk (hbox); have n2_ := Aside0.mk ((by rw [hg]; exact (below_size (by repeat (first | (with_reducible first | exact HB.out | apply below_alloc | apply pw_below_drewN | apply below_drew1) | exact HB.out))) : w.heap.size ≤ gb46001)); have n3_ := Aside0.mk ((by rw [hg]; exact (below_size (by repeat (first | (with_reducible first | exact HB.out | apply below_alloc | apply pw_below_drewN | apply below_drew1) | exact HB.out))) : w.heap.size ≤ gb46001)); clear HB; have HB := n0_; have BK46001 := n1_; have GW46001 := n2_; have GE46001 := n3_; clear n0_ n1_ n2_ n3_; clear hb hbox hg; have hcz6_0 : w5.cell? ⟨gb46001, 0, none⟩ = some (.string a0_0) := (blk_cell BK46001.out 0).trans rfl; have hcz6_1 : w5.cell? ⟨gb46001, 1, none⟩ = some (.int .i64 a0_1) := (blk_cell BK46001.out 1).trans rfl; have hcz6_2 : w5.cell? ⟨gb46001, 2, none⟩ = some (.string a0_2) := (blk_cell BK46001.out 2).trans rfl; have hfz6_0 := blk_frozen BK46001.out 0; have hfz6_1 := blk_frozen BK46001.out 1; have hfz6_2 := blk_frozen BK46001.out 2))
      go_ret2
      exact ⟨by first | rfl | (simp [errW_none, errW_some] <;> rfl) | (simp [*, errW_none, errW_some] <;> rfl), by repeat (first | (with_reducible first | exact HB.out | apply below_alloc | apply pw_below_drewN | apply below_drew1 | refine below_set ?_ GE46001.out) | exact HB.out)⟩
    · rw [if_neg c4] at H
      have c4b0 : (a1.toList == ([116, 114, 117, 101] : List UInt8)) = false := beq_eq_false_iff_ne.mpr c4
      have c4b1 : (a1.toList != ([116, 114, 117, 101] : List UInt8)) = true := bne_iff_ne.mpr c4
      simp only [Option.some.injEq, Prod.mk.injEq] at H
      obtain ⟨rfl, rfl⟩ := H
      go_enter Tryd.func45, Tryd.ntmps45
      go_wp2_with (first | ((with_reducible refine gate_dst (N := 2) rfl ?_); refine box_event ?hg (N := 2) ?hd (cs := #[.string a0_0, .int .i64 a0_1, .string a0_2]) (t := 57) ?hr ?_; (case hd => rfl); (case hg => rfl); (case hr => first | (go_simp; done) | (go_simp; rfl)); intro gb46001 hg w7 hbox hb; have n0_ := Aside0.mk (below_step (by repeat (first | (with_reducible first | exact HB.out | apply below_alloc | apply pw_below_drewN | apply below_drew1) | exact HB.out)) hb); have n1_ := Aside0.mk (hbox); have n2_ := Aside0.mk ((by rw [hg]; exact (below_size (by repeat (first | (with_reducible first | exact HB.out | apply below_alloc | apply pw_below_drewN | apply below_drew1) | exact HB.out))) : w.heap.size ≤ gb46001)); have n3_ := Aside0.mk ((by rw [hg]; exact (below_size (by repeat (first | (with_reducible first | exact HB.out | apply below_alloc | apply pw_below_drewN | apply below_drew1) | exact HB.out))) : w.heap.size ≤ gb46001)); clear HB; have HB := n0_; have BK46001 := n1_; have GW46001 := n2_; have GE46001 := n3_; clear n0_ n1_ n2_ n3_; clear hb hbox hg; have hcz8_0 : w7.cell? ⟨gb46001, 0, none⟩ = some (.string a0_0) := (blk_cell BK46001.out 0).trans rfl; have hcz8_1 : w7.cell? ⟨gb46001, 1, none⟩ = some (.int .i64 a0_1) := (blk_cell BK46001.out 1).trans rfl; have hcz8_2 : w7.cell? ⟨gb46001, 2, none⟩ = some (.string a0_2) := (blk_cell BK46001.out 2).trans rfl; have hfz8_0 := blk_frozen BK46001.out 0; have hfz8_1 := blk_frozen BK46001.out 1; have hfz8_2 := blk_frozen BK46001.out 2))
      go_ret2
      exact ⟨by first | rfl | (simp [errW_none, errW_some] <;> rfl) | (simp [*, errW_none, errW_some] <;> rfl), by repeat (first | (with_reducible first | exact HB.out | apply below_alloc | apply pw_below_drewN | apply below_drew1 | refine below_set ?_ GE46001.out) | exact HB.out)⟩
  · rw [if_neg c3] at H
    have c3b0 : (a0_1 == 0) = false := beq_eq_false_iff_ne.mpr c3
    have c3b1 : (a0_1 != 0) = true := bne_iff_ne.mpr c3
    by_cases c9 : a0_1 = 1
    · rw [if_pos c9] at H
      have c9b0 : (a0_1 == 1) = true := beq_iff_eq.mpr c9
      have c9b1 : (a0_1 != 1) = false := bne_eq_false_iff_eq.mpr c9
      clear c9
      replace H := Option.bind_eq_some_iff.mp H
      obtain ⟨⟨t46002, t46003⟩, A100, H⟩ := H
      replace H : (if t46003 = 0 then ((digit_Show.f t46002 10).bind fun bt46004 => (some (bt46004.1, (bt46004.2 == 0)))) else (some ((⟨#[]⟩ : ByteArray), false))) = some (r1, r2) := H
      have A10 := Aside0.mk A100
      clear A100
      by_cases c11 : t46003 = 0
      · rw [if_pos c11] at H
        have c11b0 : (t46003 == 0) = true := beq_iff_eq.mpr c11
        have c11b1 : (t46003 != 0) = false := bne_eq_false_iff_eq.mpr c11
        clear c11
        replace H := Option.bind_eq_some_iff.mp H
        obtain ⟨⟨t46004, t46005⟩, A120, H⟩ := H
        replace H : (some (t46004, (t46005 == 0))) = some (r1, r2) := H
        have A12 := Aside0.mk A120
        clear A120
        simp only [Option.some.injEq, Prod.mk.injEq] at H
        obtain ⟨rfl, rfl⟩ := H
        go_enter Tryd.func45, Tryd.ntmps45
        go_wp2_with (first | ((with_reducible refine gate_dst (N := 2) rfl ?_); refine box_event ?hg (N := 2) ?hd (cs := #[.string a0_0, .int .i64 a0_1, .string a0_2]) (t := 57) ?hr ?_; (case hd => rfl); (case hg => rfl); (case hr => first | (go_simp; done) | (go_simp; rfl)); intro gb46001 hg w13 hbox hb; have n0_ := Aside0.mk (below_step (by repeat (first | (with_reducible first | exact HB.out | apply below_alloc | apply pw_below_drewN | apply below_drew1) | exact HB.out)) hb); have n1_ := Aside0.mk (hbox); have n2_ := Aside0.mk ((by rw [hg]; exact (below_size (by repeat (first | (with_reducible first | exact HB.out | apply below_alloc | apply pw_below_drewN | apply below_drew1) | exact HB.out))) : w.heap.size ≤ gb46001)); have n3_ := Aside0.mk ((by rw [hg]; exact (below_size (by repeat (first | (with_reducible first | exact HB.out | apply below_alloc | apply pw_below_drewN | apply below_drew1) | exact HB.out))) : w.heap.size ≤ gb46001)); clear HB; have HB := n0_; have BK46001 := n1_; have GW46001 := n2_; have GE46001 := n3_; clear n0_ n1_ n2_ n3_; clear hb hbox hg; have hcz14_0 : w13.cell? ⟨gb46001, 0, none⟩ = some (.string a0_0) := (blk_cell BK46001.out 0).trans rfl; have hcz14_1 : w13.cell? ⟨gb46001, 1, none⟩ = some (.int .i64 a0_1) := (blk_cell BK46001.out 1).trans rfl; have hcz14_2 : w13.cell? ⟨gb46001, 2, none⟩ = some (.string a0_2) := (blk_cell BK46001.out 2).trans rfl; have hfz14_0 := blk_frozen BK46001.out 0; have hfz14_1 := blk_frozen BK46001.out 1; have hfz14_2 := blk_frozen BK46001.out 2) | ((with_reducible refine gate_callee (f := 61) rfl ?_); refine goesL_ (some 24) rfl rfl Tryd.func61 (by kernel_rfl) rfl #[.string a1, .int .u32 10] rfl (by (try simp only [List.map_toArray, List.map_cons, List.map_nil]); first | done | rfl | (simp only [List.length_drop, List.length_take]; rfl)) ?_; (with_reducible refine (digit_Parse.calls k a1 10 t46002 t46003 _ A10.out).mono ?_); rintro e w' ⟨rfl, ⟨nd, rfl⟩⟩; refine ⟨_, rfl, ?_⟩) | ((with_reducible refine gate_callee (f := 62) rfl ?_); refine goesL_ (some 31) rfl rfl Tryd.func62 (by kernel_rfl) rfl #[.int .u32 t46002, .int .u32 10] rfl (by (try simp only [List.map_toArray, List.map_cons, List.map_nil]); first | done | rfl | (simp only [List.length_drop, List.length_take]; rfl)) ?_; (with_reducible refine (digit_Show.calls t46002 10 t46004 t46005 _ (Tabs.below ht (by repeat (first | (with_reducible first | exact HB.out | apply below_alloc | apply pw_below_drewN | apply below_drew1 | refine below_set ?_ (Aside0.out (by assumption))) | exact HB.out))) A12.out).mono ?_); rintro e w15 ⟨rfl, hb⟩; refine ⟨_, rfl, ?_⟩; have n0_ := Aside0.mk (blk_below (g := gb46001) (o := .cells #[.string a0_0, .int .i64 a0_1, .string a0_2] 57 (0, 0)) (by (with_reducible repeat (first | refine blk_drewN ?_ _ | refine blk_drew ?_ | refine blk_alloc ?_ _)); exact BK46001.out) hb); have n1_ := Aside0.mk (below_step (by repeat (first | (with_reducible first | exact HB.out | apply below_alloc | apply pw_below_drewN | apply below_drew1 | refine below_set ?_ GE46001.out) | exact HB.out)) hb); clear BK46001; clear HB; have BK46001 := n0_; have HB := n1_; clear n0_ n1_; (try clear hb); (try clear hb2); (try clear hk); (try clear hi)))
        go_ret2
        exact ⟨by first | rfl | (simp [errW_none, errW_some] <;> rfl) | (simp [*, errW_none, errW_some] <;> rfl), by repeat (first | (with_reducible first | exact HB.out | apply below_alloc | apply pw_below_drewN | apply below_drew1 | refine below_set ?_ GE46001.out) | exact HB.out)⟩
      · rw [if_neg c11] at H
        have c11b0 : (t46003 == 0) = false := beq_eq_false_iff_ne.mpr c11
        have c11b1 : (t46003 != 0) = true := bne_iff_ne.mpr c11
        simp only [Option.some.injEq, Prod.mk.injEq] at H
        obtain ⟨rfl, rfl⟩ := H
        go_enter Tryd.func45, Tryd.ntmps45
        go_wp2_with (first | ((with_reducible refine gate_dst (N := 2) rfl ?_); refine box_event ?hg (N := 2) ?hd (cs := #[.string a0_0, .int .i64 a0_1, .string a0_2]) (t := 57) ?hr ?_; (case hd => rfl); (case hg => rfl); (case hr => first | (go_simp; done) | (go_simp; rfl)); intro gb46001 hg w16 hbox hb; have n0_ := Aside0.mk (below_step (by repeat (first | (with_reducible first | exact HB.out | apply below_alloc | apply pw_below_drewN | apply below_drew1) | exact HB.out)) hb); have n1_ := Aside0.mk (hbox); have n2_ := Aside0.mk ((by rw [hg]; exact (below_size (by repeat (first | (with_reducible first | exact HB.out | apply below_alloc | apply pw_below_drewN | apply below_drew1) | exact HB.out))) : w.heap.size ≤ gb46001)); have n3_ := Aside0.mk ((by rw [hg]; exact (below_size (by repeat (first | (with_reducible first | exact HB.out | apply below_alloc | apply pw_below_drewN | apply below_drew1) | exact HB.out))) : w.heap.size ≤ gb46001)); clear HB; have HB := n0_; have BK46001 := n1_; have GW46001 := n2_; have GE46001 := n3_; clear n0_ n1_ n2_ n3_; clear hb hbox hg; have hcz17_0 : w16.cell? ⟨gb46001, 0, none⟩ = some (.string a0_0) := (blk_cell BK46001.out 0).trans rfl; have hcz17_1 : w16.cell? ⟨gb46001, 1, none⟩ = some (.int .i64 a0_1) := (blk_cell BK46001.out 1).trans rfl; have hcz17_2 : w16.cell? ⟨gb46001, 2, none⟩ = some (.string a0_2) := (blk_cell BK46001.out 2).trans rfl; have hfz17_0 := blk_frozen BK46001.out 0; have hfz17_1 := blk_frozen BK46001.out 1; have hfz17_2 := blk_frozen BK46001.out 2) | ((with_reducible refine gate_callee (f := 61) rfl ?_); refine goesL_ (some 24) rfl rfl Tryd.func61 (by kernel_rfl) rfl #[.string a1, .int .u32 10] rfl (by (try simp only [List.map_toArray, List.map_cons, List.map_nil]); first | done | rfl | (simp only [List.length_drop, List.length_take]; rfl)) ?_; (with_reducible refine (digit_Parse.calls k a1 10 t46002 t46003 _ A10.out).mono ?_); rintro e w' ⟨rfl, ⟨nd, rfl⟩⟩; refine ⟨_, rfl, ?_⟩))
        go_ret2
        exact ⟨by first | rfl | (simp [errW_none, errW_some] <;> rfl) | (simp [*, errW_none, errW_some] <;> rfl), by repeat (first | (with_reducible first | exact HB.out | apply below_alloc | apply pw_below_drewN | apply below_drew1 | refine below_set ?_ GE46001.out) | exact HB.out)⟩
    · rw [if_neg c9] at H
      have c9b0 : (a0_1 == 1) = false := beq_eq_false_iff_ne.mpr c9
      have c9b1 : (a0_1 != 1) = true := bne_iff_ne.mpr c9
      have H' := Aside0.mk H
      clear H
      go_enter Tryd.func45, Tryd.ntmps45
      go_wp2_with (first | ((with_reducible refine gate_dst (N := 2) rfl ?_); refine box_event ?hg (N := 2) ?hd (cs := #[.string a0_0, .int .i64 a0_1, .string a0_2]) (t := 57) ?hr ?_; (case hd => rfl); (case hg => rfl); (case hr => first | (go_simp; done) | (go_simp; rfl)); intro gb46001 hg w18 hbox hb; have n0_ := Aside0.mk (below_step (by repeat (first | (with_reducible first | exact HB.out | apply below_alloc | apply pw_below_drewN | apply below_drew1) | exact HB.out)) hb); have n1_ := Aside0.mk (hbox); have n2_ := Aside0.mk ((by rw [hg]; exact (below_size (by repeat (first | (with_reducible first | exact HB.out | apply below_alloc | apply pw_below_drewN | apply below_drew1) | exact HB.out))) : w.heap.size ≤ gb46001)); have n3_ := Aside0.mk ((by rw [hg]; exact (below_size (by repeat (first | (with_reducible first | exact HB.out | apply below_alloc | apply pw_below_drewN | apply below_drew1) | exact HB.out))) : w.heap.size ≤ gb46001)); clear HB; have HB := n0_; have BK46001 := n1_; have GW46001 := n2_; have GE46001 := n3_; clear n0_ n1_ n2_ n3_; clear hb hbox hg; have hcz19_0 : w18.cell? ⟨gb46001, 0, none⟩ = some (.string a0_0) := (blk_cell BK46001.out 0).trans rfl; have hcz19_1 : w18.cell? ⟨gb46001, 1, none⟩ = some (.int .i64 a0_1) := (blk_cell BK46001.out 1).trans rfl; have hcz19_2 : w18.cell? ⟨gb46001, 2, none⟩ = some (.string a0_2) := (blk_cell BK46001.out 2).trans rfl; have hfz19_0 := blk_frozen BK46001.out 0; have hfz19_1 := blk_frozen BK46001.out 1; have hfz19_2 := blk_frozen BK46001.out 2))
      go_loopg [39] k (fun kq v39 w' => ∃ (x39_1 : Int), v39 = .int .i64 x39_1 ∧ Aside0 (vars_variable_form.l0 kq a1 (a1.size : Int) x39_1 = some (r1, r2)) ∧ Aside0 (kq ≤ k) ∧ Aside0 (w'.heap[gb46001]? = some (.cells #[.string a0_0, .int .i64 a0_1, .string a0_2] 57 (0, 0))) ∧ Aside0 (Below w.heap.size w w'))
      case atStart => exact ⟨(0), (by first | rfl | (simp; done) | (simp [*]; done)), H', ⟨Nat.le_refl _⟩, ⟨by (with_reducible repeat (first | refine blk_drewN ?_ _ | refine blk_drew ?_ | refine blk_alloc ?_ _)); exact BK46001.out⟩, ⟨by repeat (first | (with_reducible first | exact HB.out | apply below_alloc | apply pw_below_drewN | apply below_drew1 | refine below_set ?_ GE46001.out) | exact HB.out)⟩⟩
      case round =>
        clear H'
        try clear c1
        try clear p2
        try clear c3
        try clear c3b0
        try clear c3b1
        try clear c4
        try clear c4b0
        try clear c4b1
        try clear c6
        try clear c9
        try clear c9b0
        try clear c9b1
        try clear c11
        try clear c11b0
        try clear c11b1
        try clear hcz14_0
        try clear hcz14_1
        try clear hcz14_2
        try clear hcz17_0
        try clear hcz17_1
        try clear hcz17_2
        try clear hcz19_0
        try clear hcz19_1
        try clear hcz19_2
        try clear hcz6_0
        try clear hcz6_1
        try clear hcz6_2
        try clear hcz8_0
        try clear hcz8_1
        try clear hcz8_2
        try clear hfz14_0
        try clear hfz14_1
        try clear hfz14_2
        try clear hfz17_0
        try clear hfz17_1
        try clear hfz17_2
        try clear hfz19_0
        try clear hfz19_1
        try clear hfz19_2
        try clear hfz6_0
        try clear hfz6_1
        try clear hfz6_2
        try clear hfz8_0
        try clear hfz8_1
        try clear hfz8_2
        obtain ⟨x39_1, rfl, HA, HK1, BK46001, HB⟩ := hrel
        cases gk with
        | zero => exact absurd HA.out (by simp [vars_variable_form.l0])
        | succ k1 =>
          have H := HA.out
          clear HA
          simp only [vars_variable_form.l0] at H
          by_cases c20 : x39_1 < (a1.size : Int)
          · rw [if_pos c20] at H
            have c20b0 : decide (x39_1 < (a1.size : Int)) = true := decide_eq_true c20
            clear c20
            by_cases c21 : 0 ≤ x39_1
            · rw [if_pos c21] at H
              have c21b0 : decide (0 ≤ x39_1) = true := decide_eq_true c21
              clear c21
              by_cases c22 : x39_1 < (a1.size : Int)
              · rw [if_pos c22] at H
                have c22b0 : decide (x39_1 < (a1.size : Int)) = true := decide_eq_true c22
                clear c22
                by_cases c24 : (bt a1 x39_1) < 32
                · rw [if_pos c24] at H
                  have c24b0 : decide ((bt a1 x39_1) < 32) = true := decide_eq_true c24
                  clear c24
                  simp only [Option.some.injEq, Prod.mk.injEq] at H
                  obtain ⟨rfl, rfl⟩ := H
                  have p23 : 0 ≤ (x39_1 : Int) := of_decide_eq_true (by first | (with_reducible assumption) | assumption)
                  have q23 : x39_1 < (a1.size : Int) := of_decide_eq_true (by first | (with_reducible assumption) | assumption)
                  have hx23 := bt_at a1 x39_1
                  replace p23 := eq_true p23
                  replace q23 := eq_true q23
                  go_wp2
                  go_ret2
                  exact ⟨by first | rfl | (simp [errW_none, errW_some] <;> rfl) | (simp [*, errW_none, errW_some] <;> rfl), by repeat (first | (with_reducible first | exact HB.out | apply below_alloc | apply pw_below_drewN | apply below_drew1 | refine below_set ?_ GE46001.out) | exact HB.out)⟩
                · rw [if_neg c24] at H
                  have c24b0 : decide ((bt a1 x39_1) < 32) = false := decide_eq_false c24
                  clear c24
                  by_cases c26 : (bt a1 x39_1) > 126
                  · rw [if_pos c26] at H
                    have c26b0 : decide (126 < (bt a1 x39_1)) = true := decide_eq_true c26
                    clear c26
                    simp only [Option.some.injEq, Prod.mk.injEq] at H
                    obtain ⟨rfl, rfl⟩ := H
                    have p23 : 0 ≤ (x39_1 : Int) := of_decide_eq_true (by first | (with_reducible assumption) | assumption)
                    have q23 : x39_1 < (a1.size : Int) := of_decide_eq_true (by first | (with_reducible assumption) | assumption)
                    have hx23 := bt_at a1 x39_1
                    replace p23 := eq_true p23
                    replace q23 := eq_true q23
                    have p25 : 0 ≤ (x39_1 : Int) := of_decide_eq_true (by first | (with_reducible assumption) | assumption)
                    have q25 : x39_1 < (a1.size : Int) := of_decide_eq_true (by first | (with_reducible assumption) | assumption)
                    have hx25 := bt_at a1 x39_1
                    replace p25 := eq_true p25
                    replace q25 := eq_true q25
                    go_wp2
                    go_ret2
                    exact ⟨by first | rfl | (simp [errW_none, errW_some] <;> rfl) | (simp [*, errW_none, errW_some] <;> rfl), by repeat (first | (with_reducible first | exact HB.out | apply below_alloc | apply pw_below_drewN | apply below_drew1 | refine below_set ?_ GE46001.out) | exact HB.out)⟩
                  · rw [if_neg c26] at H
                    have c26b0 : decide (126 < (bt a1 x39_1)) = false := decide_eq_false c26
                    clear c26
                    have H' := Aside0.mk H
                    clear H
                    have p23 : 0 ≤ (x39_1 : Int) := of_decide_eq_true (by first | (with_reducible assumption) | assumption)
                    have q23 : x39_1 < (a1.size : Int) := of_decide_eq_true (by first | (with_reducible assumption) | assumption)
                    have hx23 := bt_at a1 x39_1
                    replace p23 := eq_true p23
                    replace q23 := eq_true q23
                    have p25 : 0 ≤ (x39_1 : Int) := of_decide_eq_true (by first | (with_reducible assumption) | assumption)
                    have q25 : x39_1 < (a1.size : Int) := of_decide_eq_true (by first | (with_reducible assumption) | assumption)
                    have hx25 := bt_at a1 x39_1
                    replace p25 := eq_true p25
                    replace q25 := eq_true q25
                    go_wp2
                    go_roundg k1
                    case measure => have := HK1.out; omega
                    case rel => exact ⟨(wrap64 (x39_1 + 1)), (by first | rfl | (simp; done) | (simp [*]; done)), H', ⟨by have := HK1.out; omega⟩, ⟨by (with_reducible repeat (first | refine blk_drewN ?_ _ | refine blk_drew ?_ | refine blk_alloc ?_ _)); exact BK46001.out⟩, ⟨by repeat (first | (with_reducible first | exact HB.out | apply below_alloc | apply pw_below_drewN | apply below_drew1 | refine below_set ?_ GE46001.out) | exact HB.out)⟩⟩
              · rw [if_neg c22] at H
                exact absurd H (by simp)
            · rw [if_neg c21] at H
              exact absurd H (by simp)
          · rw [if_neg c20] at H
            have c20b0 : decide (x39_1 < (a1.size : Int)) = false := decide_eq_false c20
            clear c20
            simp only [Option.some.injEq, Prod.mk.injEq] at H
            obtain ⟨rfl, rfl⟩ := H
            go_wp2
            go_ret2
            exact ⟨by first | rfl | (simp [errW_none, errW_some] <;> rfl) | (simp [*, errW_none, errW_some] <;> rfl), by repeat (first | (with_reducible first | exact HB.out | apply below_alloc | apply pw_below_drewN | apply below_drew1 | refine below_set ?_ GE46001.out) | exact HB.out)⟩

end Go.Proofs.YtefhngadeimklaaDoor.Q
end
section
namespace Go.Proofs.YtefhngadeimklaaDoor.Q
open Go.RowKit Go.Proofs.YtefhngadeimklaaDoorW.PrintWords Go.Proofs.YtefhngadeimklaaDoorW.PrintLast Go.Proofs.YtefhngadeimklaaDoorW.PrintMore
set_option linter.unusedVariables false
set_option linter.unusedSimpArgs false

attribute [local go_sem] max2_int min2_int max_two min_two max_three min_three max_four min_four
/-! ### vars_Right: function 16 -/
def vars_Right.l0 : Nat → Int → List (S40) → Int → Int → Option (Bool)
  | 0, _, _, _, _ => none
  | k + 1, x3, x11, x12, x13 => if x13 < x12 then (if 0 ≤ x13 then (if x13 < (x11.length : Int) then ((vars_find.f k ((rd_T40 x11 x13).f0)).bind fun bt17003 => ((vars_variable_form.f k bt17003.1 bt17003.2.1 bt17003.2.2.1 ((rd_T40 x11 x13).f1)).bind fun bt17009 => (if bt17003.2.2.2.2 = true then (if bt17009.2 = true then (if bt17003.2.2.2.1 ≤ x3 then (some false) else (if bt17009.1.toList = ((rd_T40 x11 x13).f1).toList then (if bt17009.1.toList = bt17003.2.2.1.toList then (some false) else (vars_Right.l0 k bt17003.2.2.2.1 x11 x12 (wrap64 (x13 + 1)))) else (some false))) else (some false)) else (some false)))) else (none)) else (none)) else (some true)
def vars_Right.f (k : Nat) (l0 : List (S40)) : Option (Bool) := vars_Right.l0 k (-1) l0 (l0.length : Int) 0
set_option maxHeartbeats 8000000 in
set_option maxRecDepth 100000 in
theorem vars_Right.calls (k : Nat) (A0 : Option Addr) (c0 : Nat) (l0 : List (S40)) (r : Bool) (w : World) (ht : Tabs w) (hr0 : Kd.C k40 w A0 l0.length l0) (hc0 : l0.length ≤ c0) (h : vars_Right.f k l0 = some r) :
    Calls Tryd.prog 16 #[.slice A0 l0.length c0] w fun e w' => e = .returned (.bool r) ∧ Below w.heap.size w w' := by
  have hu40 := Tryd.underlying40
  have hu57 := Tryd.underlying57
  have HR0 := Aside0.mk hr0
  have HC0 := Aside0.mk hc0
  clear hr0 hc0
  have HB := Aside0.mk (Below.refl w.heap.size w)
  have H : (vars_Right.l0 k (-1) l0 (l0.length : Int) 0) = some r := h
  clear h
  have H' := Aside0.mk H
  clear H
  go_enter Tryd.func16, Tryd.ntmps16
  go_wp2
  go_loopg [3, 13] k (fun kq v3 v13 w' => ∃ (x3_1 : Int) (x13_1 : Int), v3 = .int .i64 x3_1 ∧ v13 = .int .i64 x13_1 ∧ Aside0 (vars_Right.l0 kq x3_1 l0 (l0.length : Int) x13_1 = some r) ∧ Aside0 (kq ≤ k) ∧ Aside0 (Below w.heap.size w w'))
  case atStart => exact ⟨((-1)), (0), (by first | rfl | (simp; done) | (simp [*]; done)), (by first | rfl | (simp; done) | (simp [*]; done)), H', ⟨Nat.le_refl _⟩, ⟨by repeat (first | (with_reducible first | exact HB.out | apply below_alloc | apply pw_below_drewN | apply below_drew1) | exact HB.out)⟩⟩
  case round =>
    clear H'
    try clear c1
    obtain ⟨x3_1, x13_1, rfl, rfl, HA, HK1, HB⟩ := hrel
    cases gk with
    | zero => exact absurd HA.out (by simp [vars_Right.l0])
    | succ k1 =>
      have H := HA.out
      clear HA
      simp only [vars_Right.l0] at H
      by_cases c2 : x13_1 < (l0.length : Int)
      · rw [if_pos c2] at H
        have c2b0 : decide (x13_1 < (l0.length : Int)) = true := decide_eq_true c2
        clear c2
        by_cases c3 : 0 ≤ x13_1
        · rw [if_pos c3] at H
          have c3b0 : decide (0 ≤ x13_1) = true := decide_eq_true c3
          clear c3
          by_cases c4 : x13_1 < (l0.length : Int)
          · rw [if_pos c4] at H
            have c4b0 : decide (x13_1 < (l0.length : Int)) = true := decide_eq_true c4
            clear c4
            replace H := Option.bind_eq_some_iff.mp H
            obtain ⟨⟨t17003, t17004, t17005, t17006, t17007⟩, A50, H⟩ := H
            replace H : ((vars_variable_form.f k1 t17003 t17004 t17005 ((rd_T40 l0 x13_1).f1)).bind fun bt17009 => (if t17007 = true then (if bt17009.2 = true then (if t17006 ≤ x3_1 then (some false) else (if bt17009.1.toList = ((rd_T40 l0 x13_1).f1).toList then (if bt17009.1.toList = t17005.toList then (some false) else (vars_Right.l0 k1 t17006 l0 (l0.length : Int) (wrap64 (x13_1 + 1)))) else (some false))) else (some false)) else (some false))) = some r := H
            have A5 := Aside0.mk A50
            clear A50
            replace H := Option.bind_eq_some_iff.mp H
            obtain ⟨⟨t17009, t17010⟩, A60, H⟩ := H
            replace H : (if t17007 = true then (if t17010 = true then (if t17006 ≤ x3_1 then (some false) else (if t17009.toList = ((rd_T40 l0 x13_1).f1).toList then (if t17009.toList = t17005.toList then (some false) else (vars_Right.l0 k1 t17006 l0 (l0.length : Int) (wrap64 (x13_1 + 1)))) else (some false))) else (some false)) else (some false)) = some r := H
            have A6 := Aside0.mk A60
            clear A60
            by_cases c7 : t17007 = true
            · subst c7
              have H1 : (if t17010 = true then (if t17006 ≤ x3_1 then (some false) else (if t17009.toList = ((rd_T40 l0 x13_1).f1).toList then (if t17009.toList = t17005.toList then (some false) else (vars_Right.l0 k1 t17006 l0 (l0.length : Int) (wrap64 (x13_1 + 1)))) else (some false))) else (some false)) = some r := by rw [if_pos rfl] at H; exact H
              clear H
              have H := H1
              clear H1
              by_cases c8 : t17010 = true
              · subst c8
                have H1 : (if t17006 ≤ x3_1 then (some false) else (if t17009.toList = ((rd_T40 l0 x13_1).f1).toList then (if t17009.toList = t17005.toList then (some false) else (vars_Right.l0 k1 t17006 l0 (l0.length : Int) (wrap64 (x13_1 + 1)))) else (some false))) = some r := by rw [if_pos rfl] at H; exact H
                clear H
                have H := H1
                clear H1
                by_cases c9 : t17006 ≤ x3_1
                · rw [if_pos c9] at H
                  have c9b0 : decide (t17006 ≤ x3_1) = true := decide_eq_true c9
                  clear c9
                  obtain rfl := Option.some.inj H
                  have p17001 : 0 ≤ (x13_1 : Int) := of_decide_eq_true (by first | (with_reducible assumption) | assumption)
                  have q17001 : x13_1 < (l0.length : Int) := of_decide_eq_true (by first | (with_reducible assumption) | assumption)
                  obtain ⟨ad17001, e17001, hx17001_0, hx17001_1⟩ := at_T40 HR0.out x13_1 p17001 q17001
                  cases e17001
                  replace hx17001_0 := (HB.out.cell (World.block_lt_of_cell? w _ hx17001_0)).trans hx17001_0
                  replace hx17001_1 := (HB.out.cell (World.block_lt_of_cell? w _ hx17001_1)).trans hx17001_1
                  replace p17001 := eq_true p17001
                  replace q17001 := eq_true q17001
                  go_wp2_with (first | ((with_reducible refine gate_dst (N := 5) rfl ?_); refine box_event ?hg (N := 5) ?hd (cs := #[.string (⟨#[]⟩ : ByteArray), .string (⟨#[]⟩ : ByteArray)]) (t := 40) ?hr ?_; (case hd => rfl); (case hg => rfl); (case hr => first | (go_simp; done) | (go_simp; rfl)); intro gb17002 hg w10 hbox hb; have n0_ := Aside0.mk (below_step (by repeat (first | (with_reducible first | exact HB.out | apply below_alloc | apply pw_below_drewN | apply below_drew1) | exact HB.out)) hb); have n1_ := Aside0.mk (hbox); have n2_ := Aside0.mk ((by rw [hg]; exact (below_size (by repeat (first | (with_reducible first | exact HB.out | apply below_alloc | apply pw_below_drewN | apply below_drew1) | exact HB.out))) : w.heap.size ≤ gb17002)); have n3_ := Aside0.mk ((by rw [hg]; exact (below_size (by repeat (first | (with_reducible first | exact HB.out | apply below_alloc | apply pw_below_drewN | apply below_drew1) | exact HB.out))) : w.heap.size ≤ gb17002)); clear HB; have HB := n0_; have BK17002 := n1_; have GW17002 := n2_; have GE17002 := n3_; clear n0_ n1_ n2_ n3_; clear hb hbox hg; have hcz11_0 : w10.cell? ⟨gb17002, 0, none⟩ = some (.string (⟨#[]⟩ : ByteArray)) := (blk_cell BK17002.out 0).trans rfl; have hcz11_1 : w10.cell? ⟨gb17002, 1, none⟩ = some (.string (⟨#[]⟩ : ByteArray)) := (blk_cell BK17002.out 1).trans rfl; have hfz11_0 := blk_frozen BK17002.out 0; have hfz11_1 := blk_frozen BK17002.out 1) | ((with_reducible refine gate_callee (f := 37) rfl ?_); refine goesL_ (some 20) rfl rfl Tryd.func37 (by kernel_rfl) rfl #[.string ((rd_T40 l0 x13_1).f0)] rfl (by (try simp only [List.map_toArray, List.map_cons, List.map_nil]); first | done | rfl | (simp only [List.length_drop, List.length_take]; rfl)) ?_; (with_reducible refine (vars_find.calls k1 ((rd_T40 l0 x13_1).f0) t17003 t17004 t17005 t17006 true _ A5.out).mono ?_); rintro e w12 ⟨rfl, hb⟩; refine ⟨_, rfl, ?_⟩; have n0_ := Aside0.mk (blk_below (g := gb17002) (o := .cells #[.string ((rd_T40 l0 x13_1).f0), .string ((rd_T40 l0 x13_1).f1)] 40 (0, 0)) (by (with_reducible repeat (first | refine blk_drewN ?_ _ | refine blk_drew ?_ | refine blk_alloc ?_ _)); refine blk_put (cs := #[.string ((rd_T40 l0 x13_1).f0), .string (⟨#[]⟩ : ByteArray)]) ?_ 1 _ rfl; (with_reducible repeat (first | refine blk_drewN ?_ _ | refine blk_drew ?_ | refine blk_alloc ?_ _)); refine blk_put (cs := #[.string (⟨#[]⟩ : ByteArray), .string (⟨#[]⟩ : ByteArray)]) ?_ 0 _ rfl; (with_reducible repeat (first | refine blk_drewN ?_ _ | refine blk_drew ?_ | refine blk_alloc ?_ _)); exact BK17002.out) hb); have n1_ := Aside0.mk (below_step (by repeat (first | (with_reducible first | exact HB.out | apply below_alloc | apply pw_below_drewN | apply below_drew1 | refine below_set ?_ GE17002.out) | exact HB.out)) hb); clear BK17002; clear HB; have BK17002 := n0_; have HB := n1_; clear n0_ n1_; (try clear hb); (try clear hb2); (try clear hk); (try clear hi)) | ((with_reducible refine gate_dst (N := 6) rfl ?_); refine box_event ?hg (N := 6) ?hd (cs := #[.string (⟨#[]⟩ : ByteArray), .int .i64 0, .string (⟨#[]⟩ : ByteArray)]) (t := 57) ?hr ?_; (case hd => rfl); (case hg => rfl); (case hr => first | (go_simp; done) | (go_simp; rfl)); intro gb17008 hg w13 hbox hb; have n0_ := Aside0.mk (blk_below (g := gb17002) (o := .cells #[.string ((rd_T40 l0 x13_1).f0), .string ((rd_T40 l0 x13_1).f1)] 40 (0, 0)) (by (with_reducible repeat (first | refine blk_drewN ?_ _ | refine blk_drew ?_ | refine blk_alloc ?_ _)); exact BK17002.out) hb); have n1_ := Aside0.mk (below_step (by repeat (first | (with_reducible first | exact HB.out | apply below_alloc | apply pw_below_drewN | apply below_drew1 | refine below_set ?_ GE17002.out) | exact HB.out)) hb); have n2_ := Aside0.mk (hbox); have n3_ := Aside0.mk ((by rw [hg]; exact (below_size (by repeat (first | (with_reducible first | exact HB.out | apply below_alloc | apply pw_below_drewN | apply below_drew1 | refine below_set ?_ GE17002.out) | exact HB.out))) : w.heap.size ≤ gb17008)); have n4_ := Aside0.mk ((by rw [hg]; exact (below_size (by repeat (first | (with_reducible first | exact HB.out | apply below_alloc | apply pw_below_drewN | apply below_drew1 | refine below_set ?_ GE17002.out) | exact HB.out))) : w.heap.size ≤ gb17008)); have n5_ := Aside0.mk ((by rw [hg]; exact Nat.ne_of_lt (blk_lt (g := gb17002) (o := .cells #[.string ((rd_T40 l0 x13_1).f0), .string ((rd_T40 l0 x13_1).f1)] 40 (0, 0)) (by (with_reducible repeat (first | refine blk_drewN ?_ _ | refine blk_drew ?_ | refine blk_alloc ?_ _)); exact BK17002.out)) : gb17002 ≠ gb17008)); have n6_ := Aside0.mk ((by rw [hg]; exact Nat.ne_of_gt (blk_lt (g := gb17002) (o := .cells #[.string ((rd_T40 l0 x13_1).f0), .string ((rd_T40 l0 x13_1).f1)] 40 (0, 0)) (by (with_reducible repeat (first | refine blk_drewN ?_ _ | refine blk_drew ?_ | refine blk_alloc ?_ _)); exact BK17002.out)) : gb17008 ≠ gb17002)); clear BK17002; clear HB; have BK17002 := n0_; have HB := n1_; have BK17008 := n2_; have GW17008 := n3_; have GE17008 := n4_; have NB17002_17008 := n5_; have NB17008_17002 := n6_; clear n0_ n1_ n2_ n3_ n4_ n5_ n6_; clear hb hbox hg; have hnb14 := NB17008_17002.out; have hnc14 := NB17002_17008.out; have hcz15_0 : w13.cell? ⟨gb17008, 0, none⟩ = some (.string (⟨#[]⟩ : ByteArray)) := (blk_cell BK17008.out 0).trans rfl; have hcz15_1 : w13.cell? ⟨gb17008, 1, none⟩ = some (.int .i64 0) := (blk_cell BK17008.out 1).trans rfl; have hcz15_2 : w13.cell? ⟨gb17008, 2, none⟩ = some (.string (⟨#[]⟩ : ByteArray)) := (blk_cell BK17008.out 2).trans rfl; have hfz15_0 := blk_frozen BK17008.out 0; have hfz15_1 := blk_frozen BK17008.out 1; have hfz15_2 := blk_frozen BK17008.out 2; have hcz16_0 : w13.cell? ⟨gb17002, 0, none⟩ = some (.string ((rd_T40 l0 x13_1).f0)) := (blk_cell BK17002.out 0).trans rfl; have hcz16_1 : w13.cell? ⟨gb17002, 1, none⟩ = some (.string ((rd_T40 l0 x13_1).f1)) := (blk_cell BK17002.out 1).trans rfl; have hfz16_0 := blk_frozen BK17002.out 0; have hfz16_1 := blk_frozen BK17002.out 1) | ((with_reducible refine gate_callee (f := 45) rfl ?_); refine goesL_ (some 28) rfl rfl Tryd.func45 (by kernel_rfl) rfl #[.agg #[.string t17003, .int .i64 t17004, .string t17005], .string ((rd_T40 l0 x13_1).f1)] rfl (by (try simp only [List.map_toArray, List.map_cons, List.map_nil]); first | done | rfl | (simp only [List.length_drop, List.length_take]; rfl)) ?_; (with_reducible refine (vars_variable_form.calls k1 t17003 t17004 t17005 ((rd_T40 l0 x13_1).f1) t17009 true _ (Tabs.below ht (by repeat (first | (with_reducible first | exact HB.out | apply below_alloc | apply pw_below_drewN | apply below_drew1 | refine below_set ?_ (Aside0.out (by assumption))) | exact HB.out))) A6.out).mono ?_); rintro e w17 ⟨rfl, hb⟩; refine ⟨_, rfl, ?_⟩; have n0_ := Aside0.mk (blk_below (g := gb17002) (o := .cells #[.string ((rd_T40 l0 x13_1).f0), .string ((rd_T40 l0 x13_1).f1)] 40 (0, 0)) (by (with_reducible repeat (first | refine blk_drewN ?_ _ | refine blk_drew ?_ | refine blk_alloc ?_ _)); refine blk_far ?_ NB17002_17008.out _; (with_reducible repeat (first | refine blk_drewN ?_ _ | refine blk_drew ?_ | refine blk_alloc ?_ _)); refine blk_far ?_ NB17002_17008.out _; (with_reducible repeat (first | refine blk_drewN ?_ _ | refine blk_drew ?_ | refine blk_alloc ?_ _)); refine blk_far ?_ NB17002_17008.out _; (with_reducible repeat (first | refine blk_drewN ?_ _ | refine blk_drew ?_ | refine blk_alloc ?_ _)); exact BK17002.out) hb); have n1_ := Aside0.mk (blk_below (g := gb17008) (o := .cells #[.string t17003, .int .i64 t17004, .string t17005] 57 (0, 0)) (by (with_reducible repeat (first | refine blk_drewN ?_ _ | refine blk_drew ?_ | refine blk_alloc ?_ _)); refine blk_put (cs := #[.string t17003, .int .i64 t17004, .string (⟨#[]⟩ : ByteArray)]) ?_ 2 _ rfl; (with_reducible repeat (first | refine blk_drewN ?_ _ | refine blk_drew ?_ | refine blk_alloc ?_ _)); refine blk_put (cs := #[.string t17003, .int .i64 0, .string (⟨#[]⟩ : ByteArray)]) ?_ 1 _ rfl; (with_reducible repeat (first | refine blk_drewN ?_ _ | refine blk_drew ?_ | refine blk_alloc ?_ _)); refine blk_put (cs := #[.string (⟨#[]⟩ : ByteArray), .int .i64 0, .string (⟨#[]⟩ : ByteArray)]) ?_ 0 _ rfl; (with_reducible repeat (first | refine blk_drewN ?_ _ | refine blk_drew ?_ | refine blk_alloc ?_ _)); exact BK17008.out) hb); have n2_ := Aside0.mk (below_step (by repeat (first | (with_reducible first | exact HB.out | apply below_alloc | apply pw_below_drewN | apply below_drew1 | refine below_set ?_ GE17002.out | refine below_set ?_ GE17008.out) | exact HB.out)) hb); clear BK17002; clear BK17008; clear HB; have BK17002 := n0_; have BK17008 := n1_; have HB := n2_; clear n0_ n1_ n2_; (try clear hb); (try clear hb2); (try clear hk); (try clear hi)))
                  go_ret
                  exact ⟨by first | rfl | (simp [errW_none, errW_some] <;> rfl) | (simp [*, errW_none, errW_some] <;> rfl), by repeat (first | (with_reducible first | exact HB.out | apply below_alloc | apply pw_below_drewN | apply below_drew1 | refine below_set ?_ GE17002.out | refine below_set ?_ GE17008.out) | exact HB.out)⟩
                · rw [if_neg c9] at H
                  have c9b0 : decide (t17006 ≤ x3_1) = false := decide_eq_false c9
                  clear c9
                  by_cases c18 : t17009.toList = ((rd_T40 l0 x13_1).f1).toList
                  · rw [if_pos c18] at H
                    have c18b0 : (t17009.toList == ((rd_T40 l0 x13_1).f1).toList) = true := beq_iff_eq.mpr c18
                    have c18b1 : (t17009.toList != ((rd_T40 l0 x13_1).f1).toList) = false := bne_eq_false_iff_eq.mpr c18
                    clear c18
                    by_cases c19 : t17009.toList = t17005.toList
                    · rw [if_pos c19] at H
                      have c19b0 : (t17009.toList == t17005.toList) = true := beq_iff_eq.mpr c19
                      have c19b1 : (t17009.toList != t17005.toList) = false := bne_eq_false_iff_eq.mpr c19
                      clear c19
                      obtain rfl := Option.some.inj H
                      have p17001 : 0 ≤ (x13_1 : Int) := of_decide_eq_true (by first | (with_reducible assumption) | assumption)
                      have q17001 : x13_1 < (l0.length : Int) := of_decide_eq_true (by first | (with_reducible assumption) | assumption)
                      obtain ⟨ad17001, e17001, hx17001_0, hx17001_1⟩ := at_T40 HR0.out x13_1 p17001 q17001
                      cases e17001
                      replace hx17001_0 := (HB.out.cell (World.block_lt_of_cell? w _ hx17001_0)).trans hx17001_0
                      replace hx17001_1 := (HB.out.cell (World.block_lt_of_cell? w _ hx17001_1)).trans hx17001_1
                      replace p17001 := eq_true p17001
                      replace q17001 := eq_true q17001
                      go_wp2_with (first | ((with_reducible refine gate_dst (N := 5) rfl ?_); refine box_event ?hg (N := 5) ?hd (cs := #[.string (⟨#[]⟩ : ByteArray), .string (⟨#[]⟩ : ByteArray)]) (t := 40) ?hr ?_; (case hd => rfl); (case hg => rfl); (case hr => first | (go_simp; done) | (go_simp; rfl)); intro gb17002 hg w20 hbox hb; have n0_ := Aside0.mk (below_step (by repeat (first | (with_reducible first | exact HB.out | apply below_alloc | apply pw_below_drewN | apply below_drew1) | exact HB.out)) hb); have n1_ := Aside0.mk (hbox); have n2_ := Aside0.mk ((by rw [hg]; exact (below_size (by repeat (first | (with_reducible first | exact HB.out | apply below_alloc | apply pw_below_drewN | apply below_drew1) | exact HB.out))) : w.heap.size ≤ gb17002)); have n3_ := Aside0.mk ((by rw [hg]; exact (below_size (by repeat (first | (with_reducible first | exact HB.out | apply below_alloc | apply pw_below_drewN | apply below_drew1) | exact HB.out))) : w.heap.size ≤ gb17002)); clear HB; have HB := n0_; have BK17002 := n1_; have GW17002 := n2_; have GE17002 := n3_; clear n0_ n1_ n2_ n3_; clear hb hbox hg; have hcz21_0 : w20.cell? ⟨gb17002, 0, none⟩ = some (.string (⟨#[]⟩ : ByteArray)) := (blk_cell BK17002.out 0).trans rfl; have hcz21_1 : w20.cell? ⟨gb17002, 1, none⟩ = some (.string (⟨#[]⟩ : ByteArray)) := (blk_cell BK17002.out 1).trans rfl; have hfz21_0 := blk_frozen BK17002.out 0; have hfz21_1 := blk_frozen BK17002.out 1) | ((with_reducible refine gate_callee (f := 37) rfl ?_); refine goesL_ (some 20) rfl rfl Tryd.func37 (by kernel_rfl) rfl #[.string ((rd_T40 l0 x13_1).f0)] rfl (by (try simp only [List.map_toArray, List.map_cons, List.map_nil]); first | done | rfl | (simp only [List.length_drop, List.length_take]; rfl)) ?_; (with_reducible refine (vars_find.calls k1 ((rd_T40 l0 x13_1).f0) t17003 t17004 t17005 t17006 true _ A5.out).mono ?_); rintro e w22 ⟨rfl, hb⟩; refine ⟨_, rfl, ?_⟩; have n0_ := Aside0.mk (blk_below (g := gb17002) (o := .cells #[.string ((rd_T40 l0 x13_1).f0), .string ((rd_T40 l0 x13_1).f1)] 40 (0, 0)) (by (with_reducible repeat (first | refine blk_drewN ?_ _ | refine blk_drew ?_ | refine blk_alloc ?_ _)); refine blk_put (cs := #[.string ((rd_T40 l0 x13_1).f0), .string (⟨#[]⟩ : ByteArray)]) ?_ 1 _ rfl; (with_reducible repeat (first | refine blk_drewN ?_ _ | refine blk_drew ?_ | refine blk_alloc ?_ _)); refine blk_put (cs := #[.string (⟨#[]⟩ : ByteArray), .string (⟨#[]⟩ : ByteArray)]) ?_ 0 _ rfl; (with_reducible repeat (first | refine blk_drewN ?_ _ | refine blk_drew ?_ | refine blk_alloc ?_ _)); exact BK17002.out) hb); have n1_ := Aside0.mk (below_step (by repeat (first | (with_reducible first | exact HB.out | apply below_alloc | apply pw_below_drewN | apply below_drew1 | refine below_set ?_ GE17002.out) | exact HB.out)) hb); clear BK17002; clear HB; have BK17002 := n0_; have HB := n1_; clear n0_ n1_; (try clear hb); (try clear hb2); (try clear hk); (try clear hi)) | ((with_reducible refine gate_dst (N := 6) rfl ?_); refine box_event ?hg (N := 6) ?hd (cs := #[.string (⟨#[]⟩ : ByteArray), .int .i64 0, .string (⟨#[]⟩ : ByteArray)]) (t := 57) ?hr ?_; (case hd => rfl); (case hg => rfl); (case hr => first | (go_simp; done) | (go_simp; rfl)); intro gb17008 hg w23 hbox hb; have n0_ := Aside0.mk (blk_below (g := gb17002) (o := .cells #[.string ((rd_T40 l0 x13_1).f0), .string ((rd_T40 l0 x13_1).f1)] 40 (0, 0)) (by (with_reducible repeat (first | refine blk_drewN ?_ _ | refine blk_drew ?_ | refine blk_alloc ?_ _)); exact BK17002.out) hb); have n1_ := Aside0.mk (below_step (by repeat (first | (with_reducible first | exact HB.out | apply below_alloc | apply pw_below_drewN | apply below_drew1 | refine below_set ?_ GE17002.out) | exact HB.out)) hb); have n2_ := Aside0.mk (hbox); have n3_ := Aside0.mk ((by rw [hg]; exact (below_size (by repeat (first | (with_reducible first | exact HB.out | apply below_alloc | apply pw_below_drewN | apply below_drew1 | refine below_set ?_ GE17002.out) | exact HB.out))) : w.heap.size ≤ gb17008)); have n4_ := Aside0.mk ((by rw [hg]; exact (below_size (by repeat (first | (with_reducible first | exact HB.out | apply below_alloc | apply pw_below_drewN | apply below_drew1 | refine below_set ?_ GE17002.out) | exact HB.out))) : w.heap.size ≤ gb17008)); have n5_ := Aside0.mk ((by rw [hg]; exact Nat.ne_of_lt (blk_lt (g := gb17002) (o := .cells #[.string ((rd_T40 l0 x13_1).f0), .string ((rd_T40 l0 x13_1).f1)] 40 (0, 0)) (by (with_reducible repeat (first | refine blk_drewN ?_ _ | refine blk_drew ?_ | refine blk_alloc ?_ _)); exact BK17002.out)) : gb17002 ≠ gb17008)); have n6_ := Aside0.mk ((by rw [hg]; exact Nat.ne_of_gt (blk_lt (g := gb17002) (o := .cells #[.string ((rd_T40 l0 x13_1).f0), .string ((rd_T40 l0 x13_1).f1)] 40 (0, 0)) (by (with_reducible repeat (first | refine blk_drewN ?_ _ | refine blk_drew ?_ | refine blk_alloc ?_ _)); exact BK17002.out)) : gb17008 ≠ gb17002)); clear BK17002; clear HB; have BK17002 := n0_; have HB := n1_; have BK17008 := n2_; have GW17008 := n3_; have GE17008 := n4_; have NB17002_17008 := n5_; have NB17008_17002 := n6_; clear n0_ n1_ n2_ n3_ n4_ n5_ n6_; clear hb hbox hg; have hnb24 := NB17008_17002.out; have hnc24 := NB17002_17008.out; have hcz25_0 : w23.cell? ⟨gb17008, 0, none⟩ = some (.string (⟨#[]⟩ : ByteArray)) := (blk_cell BK17008.out 0).trans rfl; have hcz25_1 : w23.cell? ⟨gb17008, 1, none⟩ = some (.int .i64 0) := (blk_cell BK17008.out 1).trans rfl; have hcz25_2 : w23.cell? ⟨gb17008, 2, none⟩ = some (.string (⟨#[]⟩ : ByteArray)) := (blk_cell BK17008.out 2).trans rfl; have hfz25_0 := blk_frozen BK17008.out 0; have hfz25_1 := blk_frozen BK17008.out 1; have hfz25_2 := blk_frozen BK17008.out 2; have hcz26_0 : w23.cell? ⟨gb17002, 0, none⟩ = some (.string ((rd_T40 l0 x13_1).f0)) := (blk_cell BK17002.out 0).trans rfl; have hcz26_1 : w23.cell? ⟨gb17002, 1, none⟩ = some (.string ((rd_T40 l0 x13_1).f1)) := (blk_cell BK17002.out 1).trans rfl; have hfz26_0 := blk_frozen BK17002.out 0; have hfz26_1 := blk_frozen BK17002.out 1) | ((with_reducible refine gate_callee (f := 45) rfl ?_); refine goesL_ (some 28) rfl rfl Tryd.func45 (by kernel_rfl) rfl #[.agg #[.string t17003, .int .i64 t17004, .string t17005], .string ((rd_T40 l0 x13_1).f1)] rfl (by (try simp only [List.map_toArray, List.map_cons, List.map_nil]); first | done | rfl | (simp only [List.length_drop, List.length_take]; rfl)) ?_; (with_reducible refine (vars_variable_form.calls k1 t17003 t17004 t17005 ((rd_T40 l0 x13_1).f1) t17009 true _ (Tabs.below ht (by repeat (first | (with_reducible first | exact HB.out | apply below_alloc | apply pw_below_drewN | apply below_drew1 | refine below_set ?_ (Aside0.out (by assumption))) | exact HB.out))) A6.out).mono ?_); rintro e w27 ⟨rfl, hb⟩; refine ⟨_, rfl, ?_⟩; have n0_ := Aside0.mk (blk_below (g := gb17002) (o := .cells #[.string ((rd_T40 l0 x13_1).f0), .string ((rd_T40 l0 x13_1).f1)] 40 (0, 0)) (by (with_reducible repeat (first | refine blk_drewN ?_ _ | refine blk_drew ?_ | refine blk_alloc ?_ _)); refine blk_far ?_ NB17002_17008.out _; (with_reducible repeat (first | refine blk_drewN ?_ _ | refine blk_drew ?_ | refine blk_alloc ?_ _)); refine blk_far ?_ NB17002_17008.out _; (with_reducible repeat (first | refine blk_drewN ?_ _ | refine blk_drew ?_ | refine blk_alloc ?_ _)); refine blk_far ?_ NB17002_17008.out _; (with_reducible repeat (first | refine blk_drewN ?_ _ | refine blk_drew ?_ | refine blk_alloc ?_ _)); exact BK17002.out) hb); have n1_ := Aside0.mk (blk_below (g := gb17008) (o := .cells #[.string t17003, .int .i64 t17004, .string t17005] 57 (0, 0)) (by (with_reducible repeat (first | refine blk_drewN ?_ _ | refine blk_drew ?_ | refine blk_alloc ?_ _)); refine blk_put (cs := #[.string t17003, .int .i64 t17004, .string (⟨#[]⟩ : ByteArray)]) ?_ 2 _ rfl; (with_reducible repeat (first | refine blk_drewN ?_ _ | refine blk_drew ?_ | refine blk_alloc ?_ _)); refine blk_put (cs := #[.string t17003, .int .i64 0, .string (⟨#[]⟩ : ByteArray)]) ?_ 1 _ rfl; (with_reducible repeat (first | refine blk_drewN ?_ _ | refine blk_drew ?_ | refine blk_alloc ?_ _)); refine blk_put (cs := #[.string (⟨#[]⟩ : ByteArray), .int .i64 0, .string (⟨#[]⟩ : ByteArray)]) ?_ 0 _ rfl; (with_reducible repeat (first | refine blk_drewN ?_ _ | refine blk_drew ?_ | refine blk_alloc ?_ _)); exact BK17008.out) hb); have n2_ := Aside0.mk (below_step (by repeat (first | (with_reducible first | exact HB.out | apply below_alloc | apply pw_below_drewN | apply below_drew1 | refine below_set ?_ GE17002.out | refine below_set ?_ GE17008.out) | exact HB.out)) hb); clear BK17002; clear BK17008; clear HB; have BK17002 := n0_; have BK17008 := n1_; have HB := n2_; clear n0_ n1_ n2_; (try clear hb); (try clear hb2); (try clear hk); (try clear hi); have hcz28_0 : w27.cell? ⟨gb17002, 0, none⟩ = some (.string ((rd_T40 l0 x13_1).f0)) := (blk_cell BK17002.out 0).trans rfl; have hcz28_1 : w27.cell? ⟨gb17002, 1, none⟩ = some (.string ((rd_T40 l0 x13_1).f1)) := (blk_cell BK17002.out 1).trans rfl; have hfz28_0 := blk_frozen BK17002.out 0; have hfz28_1 := blk_frozen BK17002.out 1; have hcz29_0 : w27.cell? ⟨gb17008, 0, none⟩ = some (.string t17003) := (blk_cell BK17008.out 0).trans rfl; have hcz29_1 : w27.cell? ⟨gb17008, 1, none⟩ = some (.int .i64 t17004) := (blk_cell BK17008.out 1).trans rfl; have hcz29_2 : w27.cell? ⟨gb17008, 2, none⟩ = some (.string t17005) := (blk_cell BK17008.out 2).trans rfl; have hfz29_0 := blk_frozen BK17008.out 0; have hfz29_1 := blk_frozen BK17008.out 1; have hfz29_2 := blk_frozen BK17008.out 2))
                      go_ret
                      exact ⟨by first | rfl | (simp [errW_none, errW_some] <;> rfl) | (simp [*, errW_none, errW_some] <;> rfl), by repeat (first | (with_reducible first | exact HB.out | apply below_alloc | apply pw_below_drewN | apply below_drew1 | refine below_set ?_ GE17002.out | refine below_set ?_ GE17008.out) | exact HB.out)⟩
                    · rw [if_neg c19] at H
                      have c19b0 : (t17009.toList == t17005.toList) = false := beq_eq_false_iff_ne.mpr c19
                      have c19b1 : (t17009.toList != t17005.toList) = true := bne_iff_ne.mpr c19
                      have H' := Aside0.mk H
                      clear H
                      have p17001 : 0 ≤ (x13_1 : Int) := of_decide_eq_true (by first | (with_reducible assumption) | assumption)
                      have q17001 : x13_1 < (l0.length : Int) := of_decide_eq_true (by first | (with_reducible assumption) | assumption)
                      obtain ⟨ad17001, e17001, hx17001_0, hx17001_1⟩ := at_T40 HR0.out x13_1 p17001 q17001
                      cases e17001
                      replace hx17001_0 := (HB.out.cell (World.block_lt_of_cell? w _ hx17001_0)).trans hx17001_0
                      replace hx17001_1 := (HB.out.cell (World.block_lt_of_cell? w _ hx17001_1)).trans hx17001_1
                      replace p17001 := eq_true p17001
                      replace q17001 := eq_true q17001
                      go_wp2_with (first | ((with_reducible refine gate_dst (N := 5) rfl ?_); refine box_event ?hg (N := 5) ?hd (cs := #[.string (⟨#[]⟩ : ByteArray), .string (⟨#[]⟩ : ByteArray)]) (t := 40) ?hr ?_; (case hd => rfl); (case hg => rfl); (case hr => first | (go_simp; done) | (go_simp; rfl)); intro gb17002 hg w30 hbox hb; have n0_ := Aside0.mk (below_step (by repeat (first | (with_reducible first | exact HB.out | apply below_alloc | apply pw_below_drewN | apply below_drew1) | exact HB.out)) hb); have n1_ := Aside0.mk (hbox); have n2_ := Aside0.mk ((by rw [hg]; exact (below_size (by repeat (first | (with_reducible first | exact HB.out | apply below_alloc | apply pw_below_drewN | apply below_drew1) | exact HB.out))) : w.heap.size ≤ gb17002)); have n3_ := Aside0.mk ((by rw [hg]; exact (below_size (by repeat (first | (with_reducible first | exact HB.out | apply below_alloc | apply pw_below_drewN | apply below_drew1) | exact HB.out))) : w.heap.size ≤ gb17002)); clear HB; have HB := n0_; have BK17002 := n1_; have GW17002 := n2_; have GE17002 := n3_; clear n0_ n1_ n2_ n3_; clear hb hbox hg; have hcz31_0 : w30.cell? ⟨gb17002, 0, none⟩ = some (.string (⟨#[]⟩ : ByteArray)) := (blk_cell BK17002.out 0).trans rfl; have hcz31_1 : w30.cell? ⟨gb17002, 1, none⟩ = some (.string (⟨#[]⟩ : ByteArray)) := (blk_cell BK17002.out 1).trans rfl; have hfz31_0 := blk_frozen BK17002.out 0; have hfz31_1 := blk_frozen BK17002.out 1) | ((with_reducible refine gate_callee (f := 37) rfl ?_); refine goesL_ (some 20) rfl rfl Tryd.func37 (by kernel_rfl) rfl #[.string ((rd_T40 l0 x13_1).f0)] rfl (by (try simp only [List.map_toArray, List.map_cons, List.map_nil]); first | done | rfl | (simp only [List.length_drop, List.length_take]; rfl)) ?_; (with_reducible refine (vars_find.calls k1 ((rd_T40 l0 x13_1).f0) t17003 t17004 t17005 t17006 true _ A5.out).mono ?_); rintro e w32 ⟨rfl, hb⟩; refine ⟨_, rfl, ?_⟩; have n0_ := Aside0.mk (blk_below (g := gb17002) (o := .cells #[.string ((rd_T40 l0 x13_1).f0), .string ((rd_T40 l0 x13_1).f1)] 40 (0, 0)) (by (with_reducible repeat (first | refine blk_drewN ?_ _ | refine blk_drew ?_ | refine blk_alloc ?_ _)); refine blk_put (cs := #[.string ((rd_T40 l0 x13_1).f0), .string (⟨#[]⟩ : ByteArray)]) ?_ 1 _ rfl; (with_reducible repeat (first | refine blk_drewN ?_ _ | refine blk_drew ?_ | refine blk_alloc ?_ _)); refine blk_put (cs := #[.string (⟨#[]⟩ : ByteArray), .string (⟨#[]⟩ : ByteArray)]) ?_ 0 _ rfl; (with_reducible repeat (first | refine blk_drewN ?_ _ | refine blk_drew ?_ | refine blk_alloc ?_ _)); exact BK17002.out) hb); have n1_ := Aside0.mk (below_step (by repeat (first | (with_reducible first | exact HB.out | apply below_alloc | apply pw_below_drewN | apply below_drew1 | refine below_set ?_ GE17002.out) | exact HB.out)) hb); clear BK17002; clear HB; have BK17002 := n0_; have HB := n1_; clear n0_ n1_; (try clear hb); (try clear hb2); (try clear hk); (try clear hi)) | ((with_reducible refine gate_dst (N := 6) rfl ?_); refine box_event ?hg (N := 6) ?hd (cs := #[.string (⟨#[]⟩ : ByteArray), .int .i64 0, .string (⟨#[]⟩ : ByteArray)]) (t := 57) ?hr ?_; (case hd => rfl); (case hg => rfl); (case hr => first | (go_simp; done) | (go_simp; rfl)); intro gb17008 hg w33 hbox hb; have n0_ := Aside0.mk (blk_below (g := gb17002) (o := .cells #[.string ((rd_T40 l0 x13_1).f0), .string ((rd_T40 l0 x13_1).f1)] 40 (0, 0)) (by (with_reducible repeat (first | refine blk_drewN ?_ _ | refine blk_drew ?_ | refine blk_alloc ?_ _)); exact BK17002.out) hb); have n1_ := Aside0.mk (below_step (by repeat (first | (with_reducible first | exact HB.out | apply below_alloc | apply pw_below_drewN | apply below_drew1 | refine below_set ?_ GE17002.out) | exact HB.out)) hb); have n2_ := Aside0.mk (hbox); have n3_ := Aside0.mk ((by rw [hg]; exact (below_size (by repeat (first | (with_reducible first | exact HB.out | apply below_alloc | apply pw_below_drewN | apply below_drew1 | refine below_set ?_ GE17002.out) | exact HB.out))) : w.heap.size ≤ gb17008)); have n4_ := Aside0.mk ((by rw [hg]; exact (below_size (by repeat (first | (with_reducible first | exact HB.out | apply below_alloc | apply pw_below_drewN | apply below_drew1 | refine below_set ?_ GE17002.out) | exact HB.out))) : w.heap.size ≤ gb17008)); have n5_ := Aside0.mk ((by rw [hg]; exact Nat.ne_of_lt (blk_lt (g := gb17002) (o := .cells #[.string ((rd_T40 l0 x13_1).f0), .string ((rd_T40 l0 x13_1).f1)] 40 (0, 0)) (by (with_reducible repeat (first | refine blk_drewN ?_ _ | refine blk_drew ?_ | refine blk_alloc ?_ _)); exact BK17002.out)) : gb17002 ≠ gb17008)); have n6_ := Aside0.mk ((by rw [hg]; exact Nat.ne_of_gt (blk_lt (g := gb17002) (o := .cells #[.string ((rd_T40 l0 x13_1).f0), .string ((rd_T40 l0 x13_1).f1)] 40 (0, 0)) (by (with_reducible repeat (first | refine blk_drewN ?_ _ | refine blk_drew ?_ | refine blk_alloc ?_ _)); exact BK17002.out)) : gb17008 ≠ gb17002)); clear BK17002; clear HB; have BK17002 := n0_; have HB := n1_; have BK17008 := n2_; have GW17008 := n3_; have GE17008 := n4_; have NB17002_17008 := n5_; have NB17008_17002 := n6_; clear n0_ n1_ n2_ n3_ n4_ n5_ n6_; clear hb hbox hg; have hnb34 := NB17008_17002.out; have hnc34 := NB17002_17008.out; have hcz35_0 : w33.cell? ⟨gb17008, 0, none⟩ = some (.string (⟨#[]⟩ : ByteArray)) := (blk_cell BK17008.out 0).trans rfl; have hcz35_1 : w33.cell? ⟨gb17008, 1, none⟩ = some (.int .i64 0) := (blk_cell BK17008.out 1).trans rfl; have hcz35_2 : w33.cell? ⟨gb17008, 2, none⟩ = some (.string (⟨#[]⟩ : ByteArray)) := (blk_cell BK17008.out 2).trans rfl; have hfz35_0 := blk_frozen BK17008.out 0; have hfz35_1 := blk_frozen BK17008.out 1; have hfz35_2 := blk_frozen BK17008.out 2; have hcz36_0 : w33.cell? ⟨gb17002, 0, none⟩ = some (.string ((rd_T40 l0 x13_1).f0)) := (blk_cell BK17002.out 0).trans rfl; have hcz36_1 : w33.cell? ⟨gb17002, 1, none⟩ = some (.string ((rd_T40 l0 x13_1).f1)) := (blk_cell BK17002.out 1).trans rfl; have hfz36_0 := blk_frozen BK17002.out 0; have hfz36_1 := blk_frozen BK17002.out 1) | ((with_reducible refine gate_callee (f := 45) rfl ?_); refine goesL_ (some 28) rfl rfl Tryd.func45 (by kernel_rfl) rfl #[.agg #[.string t17003, .int .i64 t17004, .string t17005], .string ((rd_T40 l0 x13_1).f1)] rfl (by (try simp only [List.map_toArray, List.map_cons, List.map_nil]); first | done | rfl | (simp only [List.length_drop, List.length_take]; rfl)) ?_; (with_reducible refine (vars_variable_form.calls k1 t17003 t17004 t17005 ((rd_T40 l0 x13_1).f1) t17009 true _ (Tabs.below ht (by repeat (first | (with_reducible first | exact HB.out | apply below_alloc | apply pw_below_drewN | apply below_drew1 | refine below_set ?_ (Aside0.out (by assumption))) | exact HB.out))) A6.out).mono ?_); rintro e w37 ⟨rfl, hb⟩; refine ⟨_, rfl, ?_⟩; have n0_ := Aside0.mk (blk_below (g := gb17002) (o := .cells #[.string ((rd_T40 l0 x13_1).f0), .string ((rd_T40 l0 x13_1).f1)] 40 (0, 0)) (by (with_reducible repeat (first | refine blk_drewN ?_ _ | refine blk_drew ?_ | refine blk_alloc ?_ _)); refine blk_far ?_ NB17002_17008.out _; (with_reducible repeat (first | refine blk_drewN ?_ _ | refine blk_drew ?_ | refine blk_alloc ?_ _)); refine blk_far ?_ NB17002_17008.out _; (with_reducible repeat (first | refine blk_drewN ?_ _ | refine blk_drew ?_ | refine blk_alloc ?_ _)); refine blk_far ?_ NB17002_17008.out _; (with_reducible repeat (first | refine blk_drewN ?_ _ | refine blk_drew ?_ | refine blk_alloc ?_ _)); exact BK17002.out) hb); have n1_ := Aside0.mk (blk_below (g := gb17008) (o := .cells #[.string t17003, .int .i64 t17004, .string t17005] 57 (0, 0)) (by (with_reducible repeat (first | refine blk_drewN ?_ _ | refine blk_drew ?_ | refine blk_alloc ?_ _)); refine blk_put (cs := #[.string t17003, .int .i64 t17004, .string (⟨#[]⟩ : ByteArray)]) ?_ 2 _ rfl; (with_reducible repeat (first | refine blk_drewN ?_ _ | refine blk_drew ?_ | refine blk_alloc ?_ _)); refine blk_put (cs := #[.string t17003, .int .i64 0, .string (⟨#[]⟩ : ByteArray)]) ?_ 1 _ rfl; (with_reducible repeat (first | refine blk_drewN ?_ _ | refine blk_drew ?_ | refine blk_alloc ?_ _)); refine blk_put (cs := #[.string (⟨#[]⟩ : ByteArray), .int .i64 0, .string (⟨#[]⟩ : ByteArray)]) ?_ 0 _ rfl; (with_reducible repeat (first | refine blk_drewN ?_ _ | refine blk_drew ?_ | refine blk_alloc ?_ _)); exact BK17008.out) hb); have n2_ := Aside0.mk (below_step (by repeat (first | (with_reducible first | exact HB.out | apply below_alloc | apply pw_below_drewN | apply below_drew1 | refine below_set ?_ GE17002.out | refine below_set ?_ GE17008.out) | exact HB.out)) hb); clear BK17002; clear BK17008; clear HB; have BK17002 := n0_; have BK17008 := n1_; have HB := n2_; clear n0_ n1_ n2_; (try clear hb); (try clear hb2); (try clear hk); (try clear hi); have hcz38_0 : w37.cell? ⟨gb17002, 0, none⟩ = some (.string ((rd_T40 l0 x13_1).f0)) := (blk_cell BK17002.out 0).trans rfl; have hcz38_1 : w37.cell? ⟨gb17002, 1, none⟩ = some (.string ((rd_T40 l0 x13_1).f1)) := (blk_cell BK17002.out 1).trans rfl; have hfz38_0 := blk_frozen BK17002.out 0; have hfz38_1 := blk_frozen BK17002.out 1; have hcz39_0 : w37.cell? ⟨gb17008, 0, none⟩ = some (.string t17003) := (blk_cell BK17008.out 0).trans rfl; have hcz39_1 : w37.cell? ⟨gb17008, 1, none⟩ = some (.int .i64 t17004) := (blk_cell BK17008.out 1).trans rfl; have hcz39_2 : w37.cell? ⟨gb17008, 2, none⟩ = some (.string t17005) := (blk_cell BK17008.out 2).trans rfl; have hfz39_0 := blk_frozen BK17008.out 0; have hfz39_1 := blk_frozen BK17008.out 1; have hfz39_2 := blk_frozen BK17008.out 2))
                      go_roundg k1
                      case measure => have := HK1.out; omega
                      case rel => exact ⟨(t17006), (wrap64 (x13_1 + 1)), (by first | rfl | (simp; done) | (simp [*]; done)), (by first | rfl | (simp; done) | (simp [*]; done)), H', ⟨by have := HK1.out; omega⟩, ⟨by repeat (first | (with_reducible first | exact HB.out | apply below_alloc | apply pw_below_drewN | apply below_drew1 | refine below_set ?_ GE17002.out | refine below_set ?_ GE17008.out) | exact HB.out)⟩⟩
                  · rw [if_neg c18] at H
                    have c18b0 : (t17009.toList == ((rd_T40 l0 x13_1).f1).toList) = false := beq_eq_false_iff_ne.mpr c18
                    have c18b1 : (t17009.toList != ((rd_T40 l0 x13_1).f1).toList) = true := bne_iff_ne.mpr c18
                    obtain rfl := Option.some.inj H
                    have p17001 : 0 ≤ (x13_1 : Int) := of_decide_eq_true (by first | (with_reducible assumption) | assumption)
                    have q17001 : x13_1 < (l0.length : Int) := of_decide_eq_true (by first | (with_reducible assumption) | assumption)
                    obtain ⟨ad17001, e17001, hx17001_0, hx17001_1⟩ := at_T40 HR0.out x13_1 p17001 q17001
                    cases e17001
                    replace hx17001_0 := (HB.out.cell (World.block_lt_of_cell? w _ hx17001_0)).trans hx17001_0
                    replace hx17001_1 := (HB.out.cell (World.block_lt_of_cell? w _ hx17001_1)).trans hx17001_1
                    replace p17001 := eq_true p17001
                    replace q17001 := eq_true q17001
                    go_wp2_with (first | ((with_reducible refine gate_dst (N := 5) rfl ?_); refine box_event ?hg (N := 5) ?hd (cs := #[.string (⟨#[]⟩ : ByteArray), .string (⟨#[]⟩ : ByteArray)]) (t := 40) ?hr ?_; (case hd => rfl); (case hg => rfl); (case hr => first | (go_simp; done) | (go_simp; rfl)); intro gb17002 hg w40 hbox hb; have n0_ := Aside0.mk (below_step (by repeat (first | (with_reducible first | exact HB.out | apply below_alloc | apply pw_below_drewN | apply below_drew1) | exact HB.out)) hb); have n1_ := Aside0.mk (hbox); have n2_ := Aside0.mk ((by rw [hg]; exact (below_size (by repeat (first | (with_reducible first | exact HB.out | apply below_alloc | apply pw_below_drewN | apply below_drew1) | exact HB.out))) : w.heap.size ≤ gb17002)); have n3_ := Aside0.mk ((by rw [hg]; exact (below_size (by repeat (first | (with_reducible first | exact HB.out | apply below_alloc | apply pw_below_drewN | apply below_drew1) | exact HB.out))) : w.heap.size ≤ gb17002)); clear HB; have HB := n0_; have BK17002 := n1_; have GW17002 := n2_; have GE17002 := n3_; clear n0_ n1_ n2_ n3_; clear hb hbox hg; have hcz41_0 : w40.cell? ⟨gb17002, 0, none⟩ = some (.string (⟨#[]⟩ : ByteArray)) := (blk_cell BK17002.out 0).trans rfl; have hcz41_1 : w40.cell? ⟨gb17002, 1, none⟩ = some (.string (⟨#[]⟩ : ByteArray)) := (blk_cell BK17002.out 1).trans rfl; have hfz41_0 := blk_frozen BK17002.out 0; have hfz41_1 := blk_frozen BK17002.out 1) | ((with_reducible refine gate_callee (f := 37) rfl ?_); refine goesL_ (some 20) rfl rfl Tryd.func37 (by kernel_rfl) rfl #[.string ((rd_T40 l0 x13_1).f0)] rfl (by (try simp only [List.map_toArray, List.map_cons, List.map_nil]); first | done | rfl | (simp only [List.length_drop, List.length_take]; rfl)) ?_; (with_reducible refine (vars_find.calls k1 ((rd_T40 l0 x13_1).f0) t17003 t17004 t17005 t17006 true _ A5.out).mono ?_); rintro e w42 ⟨rfl, hb⟩; refine ⟨_, rfl, ?_⟩; have n0_ := Aside0.mk (blk_below (g := gb17002) (o := .cells #[.string ((rd_T40 l0 x13_1).f0), .string ((rd_T40 l0 x13_1).f1)] 40 (0, 0)) (by (with_reducible repeat (first | refine blk_drewN ?_ _ | refine blk_drew ?_ | refine blk_alloc ?_ _)); refine blk_put (cs := #[.string ((rd_T40 l0 x13_1).f0), .string (⟨#[]⟩ : ByteArray)]) ?_ 1 _ rfl; (with_reducible repeat (first | refine blk_drewN ?_ _ | refine blk_drew ?_ | refine blk_alloc ?_ _)); refine blk_put (cs := #[.string (⟨#[]⟩ : ByteArray), .string (⟨#[]⟩ : ByteArray)]) ?_ 0 _ rfl; (with_reducible repeat (first | refine blk_drewN ?_ _ | refine blk_drew ?_ | refine blk_alloc ?_ _)); exact BK17002.out) hb); have n1_ := Aside0.mk (below_step (by repeat (first | (with_reducible first | exact HB.out | apply below_alloc | apply pw_below_drewN | apply below_drew1 | refine below_set ?_ GE17002.out) | exact HB.out)) hb); clear BK17002; clear HB; have BK17002 := n0_; have HB := n1_; clear n0_ n1_; (try clear hb); (try clear hb2); (try clear hk); (try clear hi)) | ((with_reducible refine gate_dst (N := 6) rfl ?_); refine box_event ?hg (N := 6) ?hd (cs := #[.string (⟨#[]⟩ : ByteArray), .int .i64 0, .string (⟨#[]⟩ : ByteArray)]) (t := 57) ?hr ?_; (case hd => rfl); (case hg => rfl); (case hr => first | (go_simp; done) | (go_simp; rfl)); intro gb17008 hg w43 hbox hb; have n0_ := Aside0.mk (blk_below (g := gb17002) (o := .cells #[.string ((rd_T40 l0 x13_1).f0), .string ((rd_T40 l0 x13_1).f1)] 40 (0, 0)) (by (with_reducible repeat (first | refine blk_drewN ?_ _ | refine blk_drew ?_ | refine blk_alloc ?_ _)); exact BK17002.out) hb); have n1_ := Aside0.mk (below_step (by repeat (first | (with_reducible first | exact HB.out | apply below_alloc | apply pw_below_drewN | apply below_drew1 | refine below_set ?_ GE17002.out) | exact HB.out)) hb); have n2_ := Aside0.mk (hbox); have n3_ := Aside0.mk ((by rw [hg]; exact (below_size (by repeat (first | (with_reducible first | exact HB.out | apply below_alloc | apply pw_below_drewN | apply below_drew1 | refine below_set ?_ GE17002.out) | exact HB.out))) : w.heap.size ≤ gb17008)); have n4_ := Aside0.mk ((by rw [hg]; exact (below_size (by repeat (first | (with_reducible first | exact HB.out | apply below_alloc | apply pw_below_drewN | apply below_drew1 | refine below_set ?_ GE17002.out) | exact HB.out))) : w.heap.size ≤ gb17008)); have n5_ := Aside0.mk ((by rw [hg]; exact Nat.ne_of_lt (blk_lt (g := gb17002) (o := .cells #[.string ((rd_T40 l0 x13_1).f0), .string ((rd_T40 l0 x13_1).f1)] 40 (0, 0)) (by (with_reducible repeat (first | refine blk_drewN ?_ _ | refine blk_drew ?_ | refine blk_alloc ?_ _)); exact BK17002.out)) : gb17002 ≠ gb17008)); have n6_ := Aside0.mk ((by rw [hg]; exact Nat.ne_of_gt (blk_lt (g := gb17002) (o := .cells #[.string ((rd_T40 l0 x13_1).f0), .string ((rd_T40 l0 x13_1).f1)] 40 (0, 0)) (by (with_reducible repeat (first | refine blk_drewN ?_ _ | refine blk_drew ?_ | refine blk_alloc ?_ _)); exact BK17002.out)) : gb17008 ≠ gb17002)); clear BK17002; clear HB; have BK17002 := n0_; have HB := n1_; have BK17008 := n2_; have GW17008 := n3_; have GE17008 := n4_; have NB17002_17008 := n5_; have NB17008_17002 := n6_; clear n0_ n1_ n2_ n3_ n4_ n5_ n6_; clear hb hbox hg; have hnb44 := NB17008_17002.out; have hnc44 := NB17002_17008.out; have hcz45_0 : w43.cell? ⟨gb17008, 0, none⟩ = some (.string (⟨#[]⟩ : ByteArray)) := (blk_cell BK17008.out 0).trans rfl; have hcz45_1 : w43.cell? ⟨gb17008, 1, none⟩ = some (.int .i64 0) := (blk_cell BK17008.out 1).trans rfl; have hcz45_2 : w43.cell? ⟨gb17008, 2, none⟩ = some (.string (⟨#[]⟩ : ByteArray)) := (blk_cell BK17008.out 2).trans rfl; have hfz45_0 := blk_frozen BK17008.out 0; have hfz45_1 := blk_frozen BK17008.out 1; have hfz45_2 := blk_frozen BK17008.out 2; have hcz46_0 : w43.cell? ⟨gb17002, 0, none⟩ = some (.string ((rd_T40 l0 x13_1).f0)) := (blk_cell BK17002.out 0).trans rfl; have hcz46_1 : w43.cell? ⟨gb17002, 1, none⟩ = some (.string ((rd_T40 l0 x13_1).f1)) := (blk_cell BK17002.out 1).trans rfl; have hfz46_0 := blk_frozen BK17002.out 0; have hfz46_1 := blk_frozen BK17002.out 1) | ((with_reducible refine gate_callee (f := 45) rfl ?_); refine goesL_ (some 28) rfl rfl Tryd.func45 (by kernel_rfl) rfl #[.agg #[.string t17003, .int .i64 t17004, .string t17005], .string ((rd_T40 l0 x13_1).f1)] rfl (by (try simp only [List.map_toArray, List.map_cons, List.map_nil]); first | done | rfl | (simp only [List.length_drop, List.length_take]; rfl)) ?_; (with_reducible refine (vars_variable_form.calls k1 t17003 t17004 t17005 ((rd_T40 l0 x13_1).f1) t17009 true _ (Tabs.below ht (by repeat (first | (with_reducible first | exact HB.out | apply below_alloc | apply pw_below_drewN | apply below_drew1 | refine below_set ?_ (Aside0.out (by assumption))) | exact HB.out))) A6.out).mono ?_); rintro e w47 ⟨rfl, hb⟩; refine ⟨_, rfl, ?_⟩; have n0_ := Aside0.mk (blk_below (g := gb17002) (o := .cells #[.string ((rd_T40 l0 x13_1).f0), .string ((rd_T40 l0 x13_1).f1)] 40 (0, 0)) (by (with_reducible repeat (first | refine blk_drewN ?_ _ | refine blk_drew ?_ | refine blk_alloc ?_ _)); refine blk_far ?_ NB17002_17008.out _; (with_reducible repeat (first | refine blk_drewN ?_ _ | refine blk_drew ?_ | refine blk_alloc ?_ _)); refine blk_far ?_ NB17002_17008.out _; (with_reducible repeat (first | refine blk_drewN ?_ _ | refine blk_drew ?_ | refine blk_alloc ?_ _)); refine blk_far ?_ NB17002_17008.out _; (with_reducible repeat (first | refine blk_drewN ?_ _ | refine blk_drew ?_ | refine blk_alloc ?_ _)); exact BK17002.out) hb); have n1_ := Aside0.mk (blk_below (g := gb17008) (o := .cells #[.string t17003, .int .i64 t17004, .string t17005] 57 (0, 0)) (by (with_reducible repeat (first | refine blk_drewN ?_ _ | refine blk_drew ?_ | refine blk_alloc ?_ _)); refine blk_put (cs := #[.string t17003, .int .i64 t17004, .string (⟨#[]⟩ : ByteArray)]) ?_ 2 _ rfl; (with_reducible repeat (first | refine blk_drewN ?_ _ | refine blk_drew ?_ | refine blk_alloc ?_ _)); refine blk_put (cs := #[.string t17003, .int .i64 0, .string (⟨#[]⟩ : ByteArray)]) ?_ 1 _ rfl; (with_reducible repeat (first | refine blk_drewN ?_ _ | refine blk_drew ?_ | refine blk_alloc ?_ _)); refine blk_put (cs := #[.string (⟨#[]⟩ : ByteArray), .int .i64 0, .string (⟨#[]⟩ : ByteArray)]) ?_ 0 _ rfl; (with_reducible repeat (first | refine blk_drewN ?_ _ | refine blk_drew ?_ | refine blk_alloc ?_ _)); exact BK17008.out) hb); have n2_ := Aside0.mk (below_step (by repeat (first | (with_reducible first | exact HB.out | apply below_alloc | apply pw_below_drewN | apply below_drew1 | refine below_set ?_ GE17002.out | refine below_set ?_ GE17008.out) | exact HB.out)) hb); clear BK17002; clear BK17008; clear HB; have BK17002 := n0_; have BK17008 := n1_; have HB := n2_; clear n0_ n1_ n2_; (try clear hb); (try clear hb2); (try clear hk); (try clear hi); have hcz48_0 : w47.cell? ⟨gb17002, 0, none⟩ = some (.string ((rd_T40 l0 x13_1).f0)) := (blk_cell BK17002.out 0).trans rfl; have hcz48_1 : w47.cell? ⟨gb17002, 1, none⟩ = some (.string ((rd_T40 l0 x13_1).f1)) := (blk_cell BK17002.out 1).trans rfl; have hfz48_0 := blk_frozen BK17002.out 0; have hfz48_1 := blk_frozen BK17002.out 1))
                    go_ret
                    exact ⟨by first | rfl | (simp [errW_none, errW_some] <;> rfl) | (simp [*, errW_none, errW_some] <;> rfl), by repeat (first | (with_reducible first | exact HB.out | apply below_alloc | apply pw_below_drewN | apply below_drew1 | refine below_set ?_ GE17002.out | refine below_set ?_ GE17008.out) | exact HB.out)⟩
              · replace c8 := Bool.eq_false_iff.mpr c8
                subst c8
                have H1 : (some false) = some r := by rw [if_neg (show ¬ (false = true) by decide)] at H; exact H
                clear H
                have H := H1
                clear H1
                obtain rfl := Option.some.inj H
                have p17001 : 0 ≤ (x13_1 : Int) := of_decide_eq_true (by first | (with_reducible assumption) | assumption)
                have q17001 : x13_1 < (l0.length : Int) := of_decide_eq_true (by first | (with_reducible assumption) | assumption)
                obtain ⟨ad17001, e17001, hx17001_0, hx17001_1⟩ := at_T40 HR0.out x13_1 p17001 q17001
                cases e17001
                replace hx17001_0 := (HB.out.cell (World.block_lt_of_cell? w _ hx17001_0)).trans hx17001_0
                replace hx17001_1 := (HB.out.cell (World.block_lt_of_cell? w _ hx17001_1)).trans hx17001_1
                replace p17001 := eq_true p17001
                replace q17001 := eq_true q17001
                go_wp2_with (first | ((with_reducible refine gate_dst (N := 5) rfl ?_); refine box_event ?hg (N := 5) ?hd (cs := #[.string (⟨#[]⟩ : ByteArray), .string (⟨#[]⟩ : ByteArray)]) (t := 40) ?hr ?_; (case hd => rfl); (case hg => rfl); (case hr => first | (go_simp; done) | (go_simp; rfl)); intro gb17002 hg w49 hbox hb; have n0_ := Aside0.mk (below_step (by repeat (first | (with_reducible first | exact HB.out | apply below_alloc | apply pw_below_drewN | apply below_drew1) | exact HB.out)) hb); have n1_ := Aside0.mk (hbox); have n2_ := Aside0.mk ((by rw [hg]; exact (below_size (by repeat (first | (with_reducible first | exact HB.out | apply below_alloc | apply pw_below_drewN | apply below_drew1) | exact HB.out))) : w.heap.size ≤ gb17002)); have n3_ := Aside0.mk ((by rw [hg]; exact (below_size (by repeat (first | (with_reducible first | exact HB.out | apply below_alloc | apply pw_below_drewN | apply below_drew1) | exact HB.out))) : w.heap.size ≤ gb17002)); clear HB; have HB := n0_; have BK17002 := n1_; have GW17002 := n2_; have GE17002 := n3_; clear n0_ n1_ n2_ n3_; clear hb hbox hg; have hcz50_0 : w49.cell? ⟨gb17002, 0, none⟩ = some (.string (⟨#[]⟩ : ByteArray)) := (blk_cell BK17002.out 0).trans rfl; have hcz50_1 : w49.cell? ⟨gb17002, 1, none⟩ = some (.string (⟨#[]⟩ : ByteArray)) := (blk_cell BK17002.out 1).trans rfl; have hfz50_0 := blk_frozen BK17002.out 0; have hfz50_1 := blk_frozen BK17002.out 1) | ((with_reducible refine gate_callee (f := 37) rfl ?_); refine goesL_ (some 20) rfl rfl Tryd.func37 (by kernel_rfl) rfl #[.string ((rd_T40 l0 x13_1).f0)] rfl (by (try simp only [List.map_toArray, List.map_cons, List.map_nil]); first | done | rfl | (simp only [List.length_drop, List.length_take]; rfl)) ?_; (with_reducible refine (vars_find.calls k1 ((rd_T40 l0 x13_1).f0) t17003 t17004 t17005 t17006 true _ A5.out).mono ?_); rintro e w51 ⟨rfl, hb⟩; refine ⟨_, rfl, ?_⟩; have n0_ := Aside0.mk (blk_below (g := gb17002) (o := .cells #[.string ((rd_T40 l0 x13_1).f0), .string ((rd_T40 l0 x13_1).f1)] 40 (0, 0)) (by (with_reducible repeat (first | refine blk_drewN ?_ _ | refine blk_drew ?_ | refine blk_alloc ?_ _)); refine blk_put (cs := #[.string ((rd_T40 l0 x13_1).f0), .string (⟨#[]⟩ : ByteArray)]) ?_ 1 _ rfl; (with_reducible repeat (first | refine blk_drewN ?_ _ | refine blk_drew ?_ | refine blk_alloc ?_ _)); refine blk_put (cs := #[.string (⟨#[]⟩ : ByteArray), .string (⟨#[]⟩ : ByteArray)]) ?_ 0 _ rfl; (with_reducible repeat (first | refine blk_drewN ?_ _ | refine blk_drew ?_ | refine blk_alloc ?_ _)); exact BK17002.out) hb); have n1_ := Aside0.mk (below_step (by repeat (first | (with_reducible first | exact HB.out | apply below_alloc | apply pw_below_drewN | apply below_drew1 | refine below_set ?_ GE17002.out) | exact HB.out)) hb); clear BK17002; clear HB; have BK17002 := n0_; have HB := n1_; clear n0_ n1_; (try clear hb); (try clear hb2); (try clear hk); (try clear hi)) | ((with_reducible refine gate_dst (N := 6) rfl ?_); refine box_event ?hg (N := 6) ?hd (cs := #[.string (⟨#[]⟩ : ByteArray), .int .i64 0, .string (⟨#[]⟩ : ByteArray)]) (t := 57) ?hr ?_; (case hd => rfl); (case hg => rfl); (case hr => first | (go_simp; done) | (go_simp; rfl)); intro gb17008 hg w52 hbox hb; have n0_ := Aside0.mk (blk_below (g := gb17002) (o := .cells #[.string ((rd_T40 l0 x13_1).f0), .string ((rd_T40 l0 x13_1).f1)] 40 (0, 0)) (by (with_reducible repeat (first | refine blk_drewN ?_ _ | refine blk_drew ?_ | refine blk_alloc ?_ _)); exact BK17002.out) hb); have n1_ := Aside0.mk (below_step (by repeat (first | (with_reducible first | exact HB.out | apply below_alloc | apply pw_below_drewN | apply below_drew1 | refine below_set ?_ GE17002.out) | exact HB.out)) hb); have n2_ := Aside0.mk (hbox); have n3_ := Aside0.mk ((by rw [hg]; exact (below_size (by repeat (first | (with_reducible first | exact HB.out | apply below_alloc | apply pw_below_drewN | apply below_drew1 | refine below_set ?_ GE17002.out) | exact HB.out))) : w.heap.size ≤ gb17008)); have n4_ := Aside0.mk ((by rw [hg]; exact (below_size (by repeat (first | (with_reducible first | exact HB.out | apply below_alloc | apply pw_below_drewN | apply below_drew1 | refine below_set ?_ GE17002.out) | exact HB.out))) : w.heap.size ≤ gb17008)); have n5_ := Aside0.mk ((by rw [hg]; exact Nat.ne_of_lt (blk_lt (g := gb17002) (o := .cells #[.string ((rd_T40 l0 x13_1).f0), .string ((rd_T40 l0 x13_1).f1)] 40 (0, 0)) (by (with_reducible repeat (first | refine blk_drewN ?_ _ | refine blk_drew ?_ | refine blk_alloc ?_ _)); exact BK17002.out)) : gb17002 ≠ gb17008)); have n6_ := Aside0.mk ((by rw [hg]; exact Nat.ne_of_gt (blk_lt (g := gb17002) (o := .cells #[.string ((rd_T40 l0 x13_1).f0), .string ((rd_T40 l0 x13_1).f1)] 40 (0, 0)) (by (with_reducible repeat (first | refine blk_drewN ?_ _ | refine blk_drew ?_ | refine blk_alloc ?_ _)); exact BK17002.out)) : gb17008 ≠ gb17002)); clear BK17002; clear HB; have BK17002 := n0_; have HB := n1_; have BK17008 := n2_; have GW17008 := n3_; have GE17008 := n4_; have NB17002_17008 := n5_; have NB17008_17002 := n6_; clear n0_ n1_ n2_ n3_ n4_ n5_ n6_; clear hb hbox hg; have hnb53 := NB17008_17002.out; have hnc53 := NB17002_17008.out; have hcz54_0 : w52.cell? ⟨gb17008, 0, none⟩ = some (.string (⟨#[]⟩ : ByteArray)) := (blk_cell BK17008.out 0).trans rfl; have hcz54_1 : w52.cell? ⟨gb17008, 1, none⟩ = some (.int .i64 0) := (blk_cell BK17008.out 1).trans rfl; have hcz54_2 : w52.cell? ⟨gb17008, 2, none⟩ = some (.string (⟨#[]⟩ : ByteArray)) := (blk_cell BK17008.out 2).trans rfl; have hfz54_0 := blk_frozen BK17008.out 0; have hfz54_1 := blk_frozen BK17008.out 1; have hfz54_2 := blk_frozen BK17008.out 2; have hcz55_0 : w52.cell? ⟨gb17002, 0, none⟩ = some (.string ((rd_T40 l0 x13_1).f0)) := (blk_cell BK17002.out 0).trans rfl; have hcz55_1 : w52.cell? ⟨gb17002, 1, none⟩ = some (.string ((rd_T40 l0 x13_1).f1)) := (blk_cell BK17002.out 1).trans rfl; have hfz55_0 := blk_frozen BK17002.out 0; have hfz55_1 := blk_frozen BK17002.out 1) | ((with_reducible refine gate_callee (f := 45) rfl ?_); refine goesL_ (some 28) rfl rfl Tryd.func45 (by kernel_rfl) rfl #[.agg #[.string t17003, .int .i64 t17004, .string t17005], .string ((rd_T40 l0 x13_1).f1)] rfl (by (try simp only [List.map_toArray, List.map_cons, List.map_nil]); first | done | rfl | (simp only [List.length_drop, List.length_take]; rfl)) ?_; (with_reducible refine (vars_variable_form.calls k1 t17003 t17004 t17005 ((rd_T40 l0 x13_1).f1) t17009 false _ (Tabs.below ht (by repeat (first | (with_reducible first | exact HB.out | apply below_alloc | apply pw_below_drewN | apply below_drew1 | refine below_set ?_ (Aside0.out (by assumption))) | exact HB.out))) A6.out).mono ?_); rintro e w56 ⟨rfl, hb⟩; refine ⟨_, rfl, ?_⟩; have n0_ := Aside0.mk (blk_below (g := gb17002) (o := .cells #[.string ((rd_T40 l0 x13_1).f0), .string ((rd_T40 l0 x13_1).f1)] 40 (0, 0)) (by (with_reducible repeat (first | refine blk_drewN ?_ _ | refine blk_drew ?_ | refine blk_alloc ?_ _)); refine blk_far ?_ NB17002_17008.out _; (with_reducible repeat (first | refine blk_drewN ?_ _ | refine blk_drew ?_ | refine blk_alloc ?_ _)); refine blk_far ?_ NB17002_17008.out _; (with_reducible repeat (first | refine blk_drewN ?_ _ | refine blk_drew ?_ | refine blk_alloc ?_ _)); refine blk_far ?_ NB17002_17008.out _; (with_reducible repeat (first | refine blk_drewN ?_ _ | refine blk_drew ?_ | refine blk_alloc ?_ _)); exact BK17002.out) hb); have n1_ := Aside0.mk (blk_below (g := gb17008) (o := .cells #[.string t17003, .int .i64 t17004, .string t17005] 57 (0, 0)) (by (with_reducible repeat (first | refine blk_drewN ?_ _ | refine blk_drew ?_ | refine blk_alloc ?_ _)); refine blk_put (cs := #[.string t17003, .int .i64 t17004, .string (⟨#[]⟩ : ByteArray)]) ?_ 2 _ rfl; (with_reducible repeat (first | refine blk_drewN ?_ _ | refine blk_drew ?_ | refine blk_alloc ?_ _)); refine blk_put (cs := #[.string t17003, .int .i64 0, .string (⟨#[]⟩ : ByteArray)]) ?_ 1 _ rfl; (with_reducible repeat (first | refine blk_drewN ?_ _ | refine blk_drew ?_ | refine blk_alloc ?_ _)); refine blk_put (cs := #[.string (⟨#[]⟩ : ByteArray), .int .i64 0, .string (⟨#[]⟩ : ByteArray)]) ?_ 0 _ rfl; (with_reducible repeat (first | refine blk_drewN ?_ _ | refine blk_drew ?_ | refine blk_alloc ?_ _)); exact BK17008.out) hb); have n2_ := Aside0.mk (below_step (by repeat (first | (with_reducible first | exact HB.out | apply below_alloc | apply pw_below_drewN | apply below_drew1 | refine below_set ?_ GE17002.out | refine below_set ?_ GE17008.out) | exact HB.out)) hb); clear BK17002; clear BK17008; clear HB; have BK17002 := n0_; have BK17008 := n1_; have HB := n2_; clear n0_ n1_ n2_; (try clear hb); (try clear hb2); (try clear hk); (try clear hi)))
                go_ret
                exact ⟨by first | rfl | (simp [errW_none, errW_some] <;> rfl) | (simp [*, errW_none, errW_some] <;> rfl), by repeat (first | (with_reducible first | exact HB.out | apply below_alloc | apply pw_below_drewN | apply below_drew1 | refine below_set ?_ GE17002.out | refine below_set ?_ GE17008.out) | exact HB.out)⟩
            · replace c7 := Bool.eq_false_iff.mpr c7
              subst c7
              have H1 : (some false) = some r := by rw [if_neg (show ¬ (false = true) by decide)] at H; exact H
              clear H
              have H := H1
              clear H1
              obtain rfl := Option.some.inj H
              have p17001 : 0 ≤ (x13_1 : Int) := of_decide_eq_true (by first | (with_reducible assumption) | assumption)
              have q17001 : x13_1 < (l0.length : Int) := of_decide_eq_true (by first | (with_reducible assumption) | assumption)
              obtain ⟨ad17001, e17001, hx17001_0, hx17001_1⟩ := at_T40 HR0.out x13_1 p17001 q17001
              cases e17001
              replace hx17001_0 := (HB.out.cell (World.block_lt_of_cell? w _ hx17001_0)).trans hx17001_0
              replace hx17001_1 := (HB.out.cell (World.block_lt_of_cell? w _ hx17001_1)).trans hx17001_1
              replace p17001 := eq_true p17001
              replace q17001 := eq_true q17001
              go_wp2_with (first | ((with_reducible refine gate_dst (N := 5) rfl ?_); refine box_event ?hg (N := 5) ?hd (cs := #[.string (⟨#[]⟩ : ByteArray), .string (⟨#[]⟩ : ByteArray)]) (t := 40) ?hr ?_; (case hd => rfl); (case hg => rfl); (case hr => first | (go_simp; done) | (go_simp; rfl)); intro gb17002 hg w57 hbox hb; have n0_ := Aside0.mk (below_step (by repeat (first | (with_reducible first | exact HB.out | apply below_alloc | apply pw_below_drewN | apply below_drew1) | exact HB.out)) hb); have n1_ := Aside0.mk (hbox); have n2_ := Aside0.mk ((by rw [hg]; exact (below_size (by repeat (first | (with_reducible first | exact HB.out | apply below_alloc | apply pw_below_drewN | apply below_drew1) | exact HB.out))) : w.heap.size ≤ gb17002)); have n3_ := Aside0.mk ((by rw [hg]; exact (below_size (by repeat (first | (with_reducible first | exact HB.out | apply below_alloc | apply pw_below_drewN | apply below_drew1) | exact HB.out))) : w.heap.size ≤ gb17002)); clear HB; have HB := n0_; have BK17002 := n1_; have GW17002 := n2_; have GE17002 := n3_; clear n0_ n1_ n2_ n3_; clear hb hbox hg; have hcz58_0 : w57.cell? ⟨gb17002, 0, none⟩ = some (.string (⟨#[]⟩ : ByteArray)) := (blk_cell BK17002.out 0).trans rfl; have hcz58_1 : w57.cell? ⟨gb17002, 1, none⟩ = some (.string (⟨#[]⟩ : ByteArray)) := (blk_cell BK17002.out 1).trans rfl; have hfz58_0 := blk_frozen BK17002.out 0; have hfz58_1 := blk_frozen BK17002.out 1) | ((with_reducible refine gate_callee (f := 37) rfl ?_); refine goesL_ (some 20) rfl rfl Tryd.func37 (by kernel_rfl) rfl #[.string ((rd_T40 l0 x13_1).f0)] rfl (by (try simp only [List.map_toArray, List.map_cons, List.map_nil]); first | done | rfl | (simp only [List.length_drop, List.length_take]; rfl)) ?_; (with_reducible refine (vars_find.calls k1 ((rd_T40 l0 x13_1).f0) t17003 t17004 t17005 t17006 false _ A5.out).mono ?_); rintro e w59 ⟨rfl, hb⟩; refine ⟨_, rfl, ?_⟩; have n0_ := Aside0.mk (blk_below (g := gb17002) (o := .cells #[.string ((rd_T40 l0 x13_1).f0), .string ((rd_T40 l0 x13_1).f1)] 40 (0, 0)) (by (with_reducible repeat (first | refine blk_drewN ?_ _ | refine blk_drew ?_ | refine blk_alloc ?_ _)); refine blk_put (cs := #[.string ((rd_T40 l0 x13_1).f0), .string (⟨#[]⟩ : ByteArray)]) ?_ 1 _ rfl; (with_reducible repeat (first | refine blk_drewN ?_ _ | refine blk_drew ?_ | refine blk_alloc ?_ _)); refine blk_put (cs := #[.string (⟨#[]⟩ : ByteArray), .string (⟨#[]⟩ : ByteArray)]) ?_ 0 _ rfl; (with_reducible repeat (first | refine blk_drewN ?_ _ | refine blk_drew ?_ | refine blk_alloc ?_ _)); exact BK17002.out) hb); have n1_ := Aside0.mk (below_step (by repeat (first | (with_reducible first | exact HB.out | apply below_alloc | apply pw_below_drewN | apply below_drew1 | refine below_set ?_ GE17002.out) | exact HB.out)) hb); clear BK17002; clear HB; have BK17002 := n0_; have HB := n1_; clear n0_ n1_; (try clear hb); (try clear hb2); (try clear hk); (try clear hi)) | ((with_reducible refine gate_dst (N := 6) rfl ?_); refine box_event ?hg (N := 6) ?hd (cs := #[.string (⟨#[]⟩ : ByteArray), .int .i64 0, .string (⟨#[]⟩ : ByteArray)]) (t := 57) ?hr ?_; (case hd => rfl); (case hg => rfl); (case hr => first | (go_simp; done) | (go_simp; rfl)); intro gb17008 hg w60 hbox hb; have n0_ := Aside0.mk (blk_below (g := gb17002) (o := .cells #[.string ((rd_T40 l0 x13_1).f0), .string ((rd_T40 l0 x13_1).f1)] 40 (0, 0)) (by (with_reducible repeat (first | refine blk_drewN ?_ _ | refine blk_drew ?_ | refine blk_alloc ?_ _)); exact BK17002.out) hb); have n1_ := Aside0.mk (below_step (by repeat (first | (with_reducible first | exact HB.out | apply below_alloc | apply pw_below_drewN | apply below_drew1 | refine below_set ?_ GE17002.out) | exact HB.out)) hb); have n2_ := Aside0.mk (hbox); have n3_ := Aside0.mk ((by rw [hg]; exact (below_size (by repeat (first | (with_reducible first | exact HB.out | apply below_alloc | apply pw_below_drewN | apply below_drew1 | refine below_set ?_ GE17002.out) | exact HB.out))) : w.heap.size ≤ gb17008)); have n4_ := Aside0.mk ((by rw [hg]; exact (below_size (by repeat (first | (with_reducible first | exact HB.out | apply below_alloc | apply pw_below_drewN | apply below_drew1 | refine below_set ?_ GE17002.out) | exact HB.out))) : w.heap.size ≤ gb17008)); have n5_ := Aside0.mk ((by rw [hg]; exact Nat.ne_of_lt (blk_lt (g := gb17002) (o := .cells #[.string ((rd_T40 l0 x13_1).f0), .string ((rd_T40 l0 x13_1).f1)] 40 (0, 0)) (by (with_reducible repeat (first | refine blk_drewN ?_ _ | refine blk_drew ?_ | refine blk_alloc ?_ _)); exact BK17002.out)) : gb17002 ≠ gb17008)); have n6_ := Aside0.mk ((by rw [hg]; exact Nat.ne_of_gt (blk_lt (g := gb17002) (o := .cells #[.string ((rd_T40 l0 x13_1).f0), .string ((rd_T40 l0 x13_1).f1)] 40 (0, 0)) (by (with_reducible repeat (first | refine blk_drewN ?_ _ | refine blk_drew ?_ | refine blk_alloc ?_ _)); exact BK17002.out)) : gb17008 ≠ gb17002)); clear BK17002; clear HB; have BK17002 := n0_; have HB := n1_; have BK17008 := n2_; have GW17008 := n3_; have GE17008 := n4_; have NB17002_17008 := n5_; have NB17008_17002 := n6_; clear n0_ n1_ n2_ n3_ n4_ n5_ n6_; clear hb hbox hg; have hnb61 := NB17008_17002.out; have hnc61 := NB17002_17008.out; have hcz62_0 : w60.cell? ⟨gb17008, 0, none⟩ = some (.string (⟨#[]⟩ : ByteArray)) := (blk_cell BK17008.out 0).trans rfl; have hcz62_1 : w60.cell? ⟨gb17008, 1, none⟩ = some (.int .i64 0) := (blk_cell BK17008.out 1).trans rfl; have hcz62_2 : w60.cell? ⟨gb17008, 2, none⟩ = some (.string (⟨#[]⟩ : ByteArray)) := (blk_cell BK17008.out 2).trans rfl; have hfz62_0 := blk_frozen BK17008.out 0; have hfz62_1 := blk_frozen BK17008.out 1; have hfz62_2 := blk_frozen BK17008.out 2; have hcz63_0 : w60.cell? ⟨gb17002, 0, none⟩ = some (.string ((rd_T40 l0 x13_1).f0)) := (blk_cell BK17002.out 0).trans rfl; have hcz63_1 : w60.cell? ⟨gb17002, 1, none⟩ = some (.string ((rd_T40 l0 x13_1).f1)) := (blk_cell BK17002.out 1).trans rfl; have hfz63_0 := blk_frozen BK17002.out 0; have hfz63_1 := blk_frozen BK17002.out 1) | ((with_reducible refine gate_callee (f := 45) rfl ?_); refine goesL_ (some 28) rfl rfl Tryd.func45 (by kernel_rfl) rfl #[.agg #[.string t17003, .int .i64 t17004, .string t17005], .string ((rd_T40 l0 x13_1).f1)] rfl (by (try simp only [List.map_toArray, List.map_cons, List.map_nil]); first | done | rfl | (simp only [List.length_drop, List.length_take]; rfl)) ?_; (with_reducible refine (vars_variable_form.calls k1 t17003 t17004 t17005 ((rd_T40 l0 x13_1).f1) t17009 t17010 _ (Tabs.below ht (by repeat (first | (with_reducible first | exact HB.out | apply below_alloc | apply pw_below_drewN | apply below_drew1 | refine below_set ?_ (Aside0.out (by assumption))) | exact HB.out))) A6.out).mono ?_); rintro e w64 ⟨rfl, hb⟩; refine ⟨_, rfl, ?_⟩; have n0_ := Aside0.mk (blk_below (g := gb17002) (o := .cells #[.string ((rd_T40 l0 x13_1).f0), .string ((rd_T40 l0 x13_1).f1)] 40 (0, 0)) (by (with_reducible repeat (first | refine blk_drewN ?_ _ | refine blk_drew ?_ | refine blk_alloc ?_ _)); refine blk_far ?_ NB17002_17008.out _; (with_reducible repeat (first | refine blk_drewN ?_ _ | refine blk_drew ?_ | refine blk_alloc ?_ _)); refine blk_far ?_ NB17002_17008.out _; (with_reducible repeat (first | refine blk_drewN ?_ _ | refine blk_drew ?_ | refine blk_alloc ?_ _)); refine blk_far ?_ NB17002_17008.out _; (with_reducible repeat (first | refine blk_drewN ?_ _ | refine blk_drew ?_ | refine blk_alloc ?_ _)); exact BK17002.out) hb); have n1_ := Aside0.mk (blk_below (g := gb17008) (o := .cells #[.string t17003, .int .i64 t17004, .string t17005] 57 (0, 0)) (by (with_reducible repeat (first | refine blk_drewN ?_ _ | refine blk_drew ?_ | refine blk_alloc ?_ _)); refine blk_put (cs := #[.string t17003, .int .i64 t17004, .string (⟨#[]⟩ : ByteArray)]) ?_ 2 _ rfl; (with_reducible repeat (first | refine blk_drewN ?_ _ | refine blk_drew ?_ | refine blk_alloc ?_ _)); refine blk_put (cs := #[.string t17003, .int .i64 0, .string (⟨#[]⟩ : ByteArray)]) ?_ 1 _ rfl; (with_reducible repeat (first | refine blk_drewN ?_ _ | refine blk_drew ?_ | refine blk_alloc ?_ _)); refine blk_put (cs := #[.string (⟨#[]⟩ : ByteArray), .int .i64 0, .string (⟨#[]⟩ : ByteArray)]) ?_ 0 _ rfl; (with_reducible repeat (first | refine blk_drewN ?_ _ | refine blk_drew ?_ | refine blk_alloc ?_ _)); exact BK17008.out) hb); have n2_ := Aside0.mk (below_step (by repeat (first | (with_reducible first | exact HB.out | apply below_alloc | apply pw_below_drewN | apply below_drew1 | refine below_set ?_ GE17002.out | refine below_set ?_ GE17008.out) | exact HB.out)) hb); clear BK17002; clear BK17008; clear HB; have BK17002 := n0_; have BK17008 := n1_; have HB := n2_; clear n0_ n1_ n2_; (try clear hb); (try clear hb2); (try clear hk); (try clear hi)))
              go_ret
              exact ⟨by first | rfl | (simp [errW_none, errW_some] <;> rfl) | (simp [*, errW_none, errW_some] <;> rfl), by repeat (first | (with_reducible first | exact HB.out | apply below_alloc | apply pw_below_drewN | apply below_drew1 | refine below_set ?_ GE17002.out | refine below_set ?_ GE17008.out) | exact HB.out)⟩
          · rw [if_neg c4] at H
            exact absurd H (by simp)
        · rw [if_neg c3] at H
          exact absurd H (by simp)
      · rw [if_neg c2] at H
        have c2b0 : decide (x13_1 < (l0.length : Int)) = false := decide_eq_false c2
        clear c2
        obtain rfl := Option.some.inj H
        go_wp2
        go_ret
        exact ⟨by first | rfl | (simp [errW_none, errW_some] <;> rfl) | (simp [*, errW_none, errW_some] <;> rfl), by repeat (first | (with_reducible first | exact HB.out | apply below_alloc | apply pw_below_drewN | apply below_drew1) | exact HB.out)⟩

end Go.Proofs.YtefhngadeimklaaDoor.Q
end
section
namespace Go.Proofs.YtefhngadeimklaaDoor.Q
open Go.RowKit Go.Proofs.YtefhngadeimklaaDoorW.PrintWords Go.Proofs.YtefhngadeimklaaDoorW.PrintLast Go.Proofs.YtefhngadeimklaaDoorW.PrintMore
set_option linter.unusedVariables false
set_option linter.unusedSimpArgs false

attribute [local go_sem] max2_int min2_int max_two min_two max_three min_three max_four min_four
/-! ### vars_Form: function 17 -/
def vars_Form.f (k : Nat) (a0 : ByteArray) (a1 : ByteArray) : Option (ByteArray × Int) := (vars_find.f k a0).bind fun bt18001 => (if bt18001.2.2.2.2 = true then ((vars_variable_form.f k bt18001.1 bt18001.2.1 bt18001.2.2.1 a1).bind fun bt18007 => (if bt18007.2 = true then (some (bt18007.1, 0)) else (some ((⟨#[]⟩ : ByteArray), 27)))) else (some ((⟨#[]⟩ : ByteArray), 2)))
set_option maxHeartbeats 8000000 in
set_option maxRecDepth 100000 in
theorem vars_Form.calls (k : Nat) (a0 : ByteArray) (a1 : ByteArray) (r1 : ByteArray) (r2 : Int) (w : World) (ht : Tabs w) (h : vars_Form.f k a0 a1 = some (r1, r2)) :
    Calls Tryd.prog 17 #[.string a0, .string a1] w fun e w' => e = .returned (.tuple #[.string r1, .int .i64 r2]) ∧ Below w.heap.size w w' := by
  have hu57 := Tryd.underlying57
  have HB := Aside0.mk (Below.refl w.heap.size w)
  have H : ((vars_find.f k a0).bind fun bt18001 => (if bt18001.2.2.2.2 = true then ((vars_variable_form.f k bt18001.1 bt18001.2.1 bt18001.2.2.1 a1).bind fun bt18007 => (if bt18007.2 = true then (some (bt18007.1, 0)) else (some ((⟨#[]⟩ : ByteArray), 27)))) else (some ((⟨#[]⟩ : ByteArray), 2)))) = some (r1, r2) := h
  clear h
  replace H := Option.bind_eq_some_iff.mp H
  obtain ⟨⟨t18001, t18002, t18003, t18004, t18005⟩, A30, H⟩ := H
  replace H : (if t18005 = true then ((vars_variable_form.f k t18001 t18002 t18003 a1).bind fun bt18007 => (if bt18007.2 = true then (some (bt18007.1, 0)) else (some ((⟨#[]⟩ : ByteArray), 27)))) else (some ((⟨#[]⟩ : ByteArray), 2))) = some (r1, r2) := H
  have A3 := Aside0.mk A30
  clear A30
  by_cases c4 : t18005 = true
  · subst c4
    have H1 : ((vars_variable_form.f k t18001 t18002 t18003 a1).bind fun bt18007 => (if bt18007.2 = true then (some (bt18007.1, 0)) else (some ((⟨#[]⟩ : ByteArray), 27)))) = some (r1, r2) := by rw [if_pos rfl] at H; exact H
    clear H
    have H := H1
    clear H1
    replace H := Option.bind_eq_some_iff.mp H
    obtain ⟨⟨t18007, t18008⟩, A50, H⟩ := H
    replace H : (if t18008 = true then (some (t18007, 0)) else (some ((⟨#[]⟩ : ByteArray), 27))) = some (r1, r2) := H
    have A5 := Aside0.mk A50
    clear A50
    by_cases c6 : t18008 = true
    · subst c6
      have H1 : (some (t18007, 0)) = some (r1, r2) := by rw [if_pos rfl] at H; exact H
      clear H
      have H := H1
      clear H1
      simp only [Option.some.injEq, Prod.mk.injEq] at H
      obtain ⟨rfl, rfl⟩ := H
      go_enter Tryd.func17, Tryd.ntmps17
      go_wp2_with (first | ((with_reducible refine gate_callee (f := 37) rfl ?_); refine goesL_ (some 12) rfl rfl Tryd.func37 (by kernel_rfl) rfl #[.string a0] rfl (by (try simp only [List.map_toArray, List.map_cons, List.map_nil]); first | done | rfl | (simp only [List.length_drop, List.length_take]; rfl)) ?_; (with_reducible refine (vars_find.calls k a0 t18001 t18002 t18003 t18004 true _ A3.out).mono ?_); rintro e w7 ⟨rfl, hb⟩; refine ⟨_, rfl, ?_⟩; have n0_ := Aside0.mk (below_step (by repeat (first | (with_reducible first | exact HB.out | apply below_alloc | apply pw_below_drewN | apply below_drew1) | exact HB.out)) hb); clear HB; have HB := n0_; clear n0_; (try clear hb); (try clear hb2); (try clear hk); (try clear hi)) | ((with_reducible refine gate_dst (N := 6) rfl ?_); refine box_event ?hg (N := 6) ?hd (cs := #[.string (⟨#[]⟩ : ByteArray), .int .i64 0, .string (⟨#[]⟩ : ByteArray)]) (t := 57) ?hr ?_; (case hd => rfl); (case hg => rfl); (case hr => first | (go_simp; done) | (go_simp; rfl)); intro gb18006 hg w8 hbox hb; have n0_ := Aside0.mk (below_step (by repeat (first | (with_reducible first | exact HB.out | apply below_alloc | apply pw_below_drewN | apply below_drew1) | exact HB.out)) hb); have n1_ := Aside0.mk (hbox); have n2_ := Aside0.mk ((by rw [hg]; exact (below_size (by repeat (first | (with_reducible first | exact HB.out | apply below_alloc | apply pw_below_drewN | apply below_drew1) | exact HB.out))) : w.heap.size ≤ gb18006)); have n3_ := Aside0.mk ((by rw [hg]; exact (below_size (by repeat (first | (with_reducible first | exact HB.out | apply below_alloc | apply pw_below_drewN | apply below_drew1) | exact HB.out))) : w.heap.size ≤ gb18006)); clear HB; have HB := n0_; have BK18006 := n1_; have GW18006 := n2_; have GE18006 := n3_; clear n0_ n1_ n2_ n3_; clear hb hbox hg; have hcz9_0 : w8.cell? ⟨gb18006, 0, none⟩ = some (.string (⟨#[]⟩ : ByteArray)) := (blk_cell BK18006.out 0).trans rfl; have hcz9_1 : w8.cell? ⟨gb18006, 1, none⟩ = some (.int .i64 0) := (blk_cell BK18006.out 1).trans rfl; have hcz9_2 : w8.cell? ⟨gb18006, 2, none⟩ = some (.string (⟨#[]⟩ : ByteArray)) := (blk_cell BK18006.out 2).trans rfl; have hfz9_0 := blk_frozen BK18006.out 0; have hfz9_1 := blk_frozen BK18006.out 1; have hfz9_2 := blk_frozen BK18006.out 2) | ((with_reducible refine gate_callee (f := 45) rfl ?_); refine goesL_ (some 21) rfl rfl Tryd.func45 (by kernel_rfl) rfl #[.agg #[.string t18001, .int .i64 t18002, .string t18003], .string a1] rfl (by (try simp only [List.map_toArray, List.map_cons, List.map_nil]); first | done | rfl | (simp only [List.length_drop, List.length_take]; rfl)) ?_; (with_reducible refine (vars_variable_form.calls k t18001 t18002 t18003 a1 t18007 true _ (Tabs.below ht (by repeat (first | (with_reducible first | exact HB.out | apply below_alloc | apply pw_below_drewN | apply below_drew1 | refine below_set ?_ (Aside0.out (by assumption))) | exact HB.out))) A5.out).mono ?_); rintro e w10 ⟨rfl, hb⟩; refine ⟨_, rfl, ?_⟩; have n0_ := Aside0.mk (blk_below (g := gb18006) (o := .cells #[.string t18001, .int .i64 t18002, .string t18003] 57 (0, 0)) (by (with_reducible repeat (first | refine blk_drewN ?_ _ | refine blk_drew ?_ | refine blk_alloc ?_ _)); refine blk_put (cs := #[.string t18001, .int .i64 t18002, .string (⟨#[]⟩ : ByteArray)]) ?_ 2 _ rfl; (with_reducible repeat (first | refine blk_drewN ?_ _ | refine blk_drew ?_ | refine blk_alloc ?_ _)); refine blk_put (cs := #[.string t18001, .int .i64 0, .string (⟨#[]⟩ : ByteArray)]) ?_ 1 _ rfl; (with_reducible repeat (first | refine blk_drewN ?_ _ | refine blk_drew ?_ | refine blk_alloc ?_ _)); refine blk_put (cs := #[.string (⟨#[]⟩ : ByteArray), .int .i64 0, .string (⟨#[]⟩ : ByteArray)]) ?_ 0 _ rfl; (with_reducible repeat (first | refine blk_drewN ?_ _ | refine blk_drew ?_ | refine blk_alloc ?_ _)); exact BK18006.out) hb); have n1_ := Aside0.mk (below_step (by repeat (first | (with_reducible first | exact HB.out | apply below_alloc | apply pw_below_drewN | apply below_drew1 | refine below_set ?_ GE18006.out) | exact HB.out)) hb); clear BK18006; clear HB; have BK18006 := n0_; have HB := n1_; clear n0_ n1_; (try clear hb); (try clear hb2); (try clear hk); (try clear hi)))
      go_ret2
      exact ⟨by first | rfl | (simp [errW_none, errW_some] <;> rfl) | (simp [*, errW_none, errW_some] <;> rfl), by repeat (first | (with_reducible first | exact HB.out | apply below_alloc | apply pw_below_drewN | apply below_drew1 | refine below_set ?_ GE18006.out) | exact HB.out)⟩
    · replace c6 := Bool.eq_false_iff.mpr c6
      subst c6
      have H1 : (some ((⟨#[]⟩ : ByteArray), 27)) = some (r1, r2) := by rw [if_neg (show ¬ (false = true) by decide)] at H; exact H
      clear H
      have H := H1
      clear H1
      simp only [Option.some.injEq, Prod.mk.injEq] at H
      obtain ⟨rfl, rfl⟩ := H
      go_enter Tryd.func17, Tryd.ntmps17
      go_wp2_with (first | ((with_reducible refine gate_callee (f := 37) rfl ?_); refine goesL_ (some 12) rfl rfl Tryd.func37 (by kernel_rfl) rfl #[.string a0] rfl (by (try simp only [List.map_toArray, List.map_cons, List.map_nil]); first | done | rfl | (simp only [List.length_drop, List.length_take]; rfl)) ?_; (with_reducible refine (vars_find.calls k a0 t18001 t18002 t18003 t18004 true _ A3.out).mono ?_); rintro e w11 ⟨rfl, hb⟩; refine ⟨_, rfl, ?_⟩; have n0_ := Aside0.mk (below_step (by repeat (first | (with_reducible first | exact HB.out | apply below_alloc | apply pw_below_drewN | apply below_drew1) | exact HB.out)) hb); clear HB; have HB := n0_; clear n0_; (try clear hb); (try clear hb2); (try clear hk); (try clear hi)) | ((with_reducible refine gate_dst (N := 6) rfl ?_); refine box_event ?hg (N := 6) ?hd (cs := #[.string (⟨#[]⟩ : ByteArray), .int .i64 0, .string (⟨#[]⟩ : ByteArray)]) (t := 57) ?hr ?_; (case hd => rfl); (case hg => rfl); (case hr => first | (go_simp; done) | (go_simp; rfl)); intro gb18006 hg w12 hbox hb; have n0_ := Aside0.mk (below_step (by repeat (first | (with_reducible first | exact HB.out | apply below_alloc | apply pw_below_drewN | apply below_drew1) | exact HB.out)) hb); have n1_ := Aside0.mk (hbox); have n2_ := Aside0.mk ((by rw [hg]; exact (below_size (by repeat (first | (with_reducible first | exact HB.out | apply below_alloc | apply pw_below_drewN | apply below_drew1) | exact HB.out))) : w.heap.size ≤ gb18006)); have n3_ := Aside0.mk ((by rw [hg]; exact (below_size (by repeat (first | (with_reducible first | exact HB.out | apply below_alloc | apply pw_below_drewN | apply below_drew1) | exact HB.out))) : w.heap.size ≤ gb18006)); clear HB; have HB := n0_; have BK18006 := n1_; have GW18006 := n2_; have GE18006 := n3_; clear n0_ n1_ n2_ n3_; clear hb hbox hg; have hcz13_0 : w12.cell? ⟨gb18006, 0, none⟩ = some (.string (⟨#[]⟩ : ByteArray)) := (blk_cell BK18006.out 0).trans rfl; have hcz13_1 : w12.cell? ⟨gb18006, 1, none⟩ = some (.int .i64 0) := (blk_cell BK18006.out 1).trans rfl; have hcz13_2 : w12.cell? ⟨gb18006, 2, none⟩ = some (.string (⟨#[]⟩ : ByteArray)) := (blk_cell BK18006.out 2).trans rfl; have hfz13_0 := blk_frozen BK18006.out 0; have hfz13_1 := blk_frozen BK18006.out 1; have hfz13_2 := blk_frozen BK18006.out 2) | ((with_reducible refine gate_callee (f := 45) rfl ?_); refine goesL_ (some 21) rfl rfl Tryd.func45 (by kernel_rfl) rfl #[.agg #[.string t18001, .int .i64 t18002, .string t18003], .string a1] rfl (by (try simp only [List.map_toArray, List.map_cons, List.map_nil]); first | done | rfl | (simp only [List.length_drop, List.length_take]; rfl)) ?_; (with_reducible refine (vars_variable_form.calls k t18001 t18002 t18003 a1 t18007 false _ (Tabs.below ht (by repeat (first | (with_reducible first | exact HB.out | apply below_alloc | apply pw_below_drewN | apply below_drew1 | refine below_set ?_ (Aside0.out (by assumption))) | exact HB.out))) A5.out).mono ?_); rintro e w14 ⟨rfl, hb⟩; refine ⟨_, rfl, ?_⟩; have n0_ := Aside0.mk (blk_below (g := gb18006) (o := .cells #[.string t18001, .int .i64 t18002, .string t18003] 57 (0, 0)) (by (with_reducible repeat (first | refine blk_drewN ?_ _ | refine blk_drew ?_ | refine blk_alloc ?_ _)); refine blk_put (cs := #[.string t18001, .int .i64 t18002, .string (⟨#[]⟩ : ByteArray)]) ?_ 2 _ rfl; (with_reducible repeat (first | refine blk_drewN ?_ _ | refine blk_drew ?_ | refine blk_alloc ?_ _)); refine blk_put (cs := #[.string t18001, .int .i64 0, .string (⟨#[]⟩ : ByteArray)]) ?_ 1 _ rfl; (with_reducible repeat (first | refine blk_drewN ?_ _ | refine blk_drew ?_ | refine blk_alloc ?_ _)); refine blk_put (cs := #[.string (⟨#[]⟩ : ByteArray), .int .i64 0, .string (⟨#[]⟩ : ByteArray)]) ?_ 0 _ rfl; (with_reducible repeat (first | refine blk_drewN ?_ _ | refine blk_drew ?_ | refine blk_alloc ?_ _)); exact BK18006.out) hb); have n1_ := Aside0.mk (below_step (by repeat (first | (with_reducible first | exact HB.out | apply below_alloc | apply pw_below_drewN | apply below_drew1 | refine below_set ?_ GE18006.out) | exact HB.out)) hb); clear BK18006; clear HB; have BK18006 := n0_; have HB := n1_; clear n0_ n1_; (try clear hb); (try clear hb2); (try clear hk); (try clear hi)))
      go_ret2
      exact ⟨by first | rfl | (simp [errW_none, errW_some] <;> rfl) | (simp [*, errW_none, errW_some] <;> rfl), by repeat (first | (with_reducible first | exact HB.out | apply below_alloc | apply pw_below_drewN | apply below_drew1 | refine below_set ?_ GE18006.out) | exact HB.out)⟩
  · replace c4 := Bool.eq_false_iff.mpr c4
    subst c4
    have H1 : (some ((⟨#[]⟩ : ByteArray), 2)) = some (r1, r2) := by rw [if_neg (show ¬ (false = true) by decide)] at H; exact H
    clear H
    have H := H1
    clear H1
    simp only [Option.some.injEq, Prod.mk.injEq] at H
    obtain ⟨rfl, rfl⟩ := H
    go_enter Tryd.func17, Tryd.ntmps17
    go_wp2_with (first | ((with_reducible refine gate_callee (f := 37) rfl ?_); refine goesL_ (some 12) rfl rfl Tryd.func37 (by kernel_rfl) rfl #[.string a0] rfl (by (try simp only [List.map_toArray, List.map_cons, List.map_nil]); first | done | rfl | (simp only [List.length_drop, List.length_take]; rfl)) ?_; (with_reducible refine (vars_find.calls k a0 t18001 t18002 t18003 t18004 false _ A3.out).mono ?_); rintro e w15 ⟨rfl, hb⟩; refine ⟨_, rfl, ?_⟩; have n0_ := Aside0.mk (below_step (by repeat (first | (with_reducible first | exact HB.out | apply below_alloc | apply pw_below_drewN | apply below_drew1) | exact HB.out)) hb); clear HB; have HB := n0_; clear n0_; (try clear hb); (try clear hb2); (try clear hk); (try clear hi)) | ((with_reducible refine gate_dst (N := 6) rfl ?_); refine box_event ?hg (N := 6) ?hd (cs := #[.string (⟨#[]⟩ : ByteArray), .int .i64 0, .string (⟨#[]⟩ : ByteArray)]) (t := 57) ?hr ?_; (case hd => rfl); (case hg => rfl); (case hr => first | (go_simp; done) | (go_simp; rfl)); intro gb18006 hg w16 hbox hb; have n0_ := Aside0.mk (below_step (by repeat (first | (with_reducible first | exact HB.out | apply below_alloc | apply pw_below_drewN | apply below_drew1) | exact HB.out)) hb); have n1_ := Aside0.mk (hbox); have n2_ := Aside0.mk ((by rw [hg]; exact (below_size (by repeat (first | (with_reducible first | exact HB.out | apply below_alloc | apply pw_below_drewN | apply below_drew1) | exact HB.out))) : w.heap.size ≤ gb18006)); have n3_ := Aside0.mk ((by rw [hg]; exact (below_size (by repeat (first | (with_reducible first | exact HB.out | apply below_alloc | apply pw_below_drewN | apply below_drew1) | exact HB.out))) : w.heap.size ≤ gb18006)); clear HB; have HB := n0_; have BK18006 := n1_; have GW18006 := n2_; have GE18006 := n3_; clear n0_ n1_ n2_ n3_; clear hb hbox hg; have hcz17_0 : w16.cell? ⟨gb18006, 0, none⟩ = some (.string (⟨#[]⟩ : ByteArray)) := (blk_cell BK18006.out 0).trans rfl; have hcz17_1 : w16.cell? ⟨gb18006, 1, none⟩ = some (.int .i64 0) := (blk_cell BK18006.out 1).trans rfl; have hcz17_2 : w16.cell? ⟨gb18006, 2, none⟩ = some (.string (⟨#[]⟩ : ByteArray)) := (blk_cell BK18006.out 2).trans rfl; have hfz17_0 := blk_frozen BK18006.out 0; have hfz17_1 := blk_frozen BK18006.out 1; have hfz17_2 := blk_frozen BK18006.out 2))
    go_ret2
    exact ⟨by first | rfl | (simp [errW_none, errW_some] <;> rfl) | (simp [*, errW_none, errW_some] <;> rfl), by repeat (first | (with_reducible first | exact HB.out | apply below_alloc | apply pw_below_drewN | apply below_drew1 | refine below_set ?_ GE18006.out) | exact HB.out)⟩

end Go.Proofs.YtefhngadeimklaaDoor.Q
end
section
namespace Go.Proofs.YtefhngadeimklaaDoor.Q
open Go.RowKit Go.Proofs.YtefhngadeimklaaDoorW.PrintWords Go.Proofs.YtefhngadeimklaaDoorW.PrintLast Go.Proofs.YtefhngadeimklaaDoorW.PrintMore
set_option linter.unusedVariables false
set_option linter.unusedSimpArgs false

attribute [local go_sem] max2_int min2_int max_two min_two max_three min_three max_four min_four
/-! ### vars_Default: function 19 -/
def vars_Default.f (k : Nat) (a0 : ByteArray) : Option (ByteArray × Int) := (vars_find.f k a0).bind fun bt20001 => (if bt20001.2.2.2.2 = true then (some (bt20001.2.2.1, 0)) else (some ((⟨#[]⟩ : ByteArray), 2)))

end Go.Proofs.YtefhngadeimklaaDoor.Q
end
section
namespace Go.Proofs.YtefhngadeimklaaDoor.Q
open Go.RowKit Go.Proofs.YtefhngadeimklaaDoorW.PrintWords Go.Proofs.YtefhngadeimklaaDoorW.PrintLast Go.Proofs.YtefhngadeimklaaDoorW.PrintMore
set_option linter.unusedVariables false
set_option linter.unusedSimpArgs false

attribute [local go_sem] max2_int min2_int max_two min_two max_three min_three max_four min_four
/-! ### tinderref19_Variable: function 47 -/
def tinderref19_Variable.f (a0 : Int) : Option (ByteArray × Int × ByteArray) := if a0 = 0 then (some ((⟨#[97, 117, 116, 111, 45, 98, 111, 111, 116, 63]⟩ : ByteArray), 98, (⟨#[116, 114, 117, 101]⟩ : ByteArray))) else (if a0 = 1 then (some ((⟨#[98, 111, 111, 116, 45, 100, 101, 118, 105, 99, 101]⟩ : ByteArray), 116, (⟨#[100, 105, 115, 107, 32, 110, 101, 116]⟩ : ByteArray))) else (if a0 = 2 then (some ((⟨#[98, 111, 111, 116, 45, 102, 105, 108, 101]⟩ : ByteArray), 116, (⟨#[]⟩ : ByteArray))) else (if a0 = 3 then (some ((⟨#[98, 111, 111, 116, 45, 108, 105, 109, 105, 116]⟩ : ByteArray), 110, (⟨#[53, 48, 48, 48]⟩ : ByteArray))) else (if a0 = 4 then (some ((⟨#[105, 110, 112, 117, 116, 45, 100, 101, 118, 105, 99, 101]⟩ : ByteArray), 116, (⟨#[107, 101, 121, 98, 111, 97, 114, 100]⟩ : ByteArray))) else (if a0 = 5 then (some ((⟨#[110, 118, 114, 97, 109, 114, 99]⟩ : ByteArray), 116, (⟨#[]⟩ : ByteArray))) else (if a0 = 6 then (some ((⟨#[111, 101, 109, 45, 98, 97, 110, 110, 101, 114]⟩ : ByteArray), 116, (⟨#[]⟩ : ByteArray))) else (if a0 = 7 then (some ((⟨#[115, 99, 114, 101, 101, 110, 45, 116, 117, 114, 110]⟩ : ByteArray), 110, (⟨#[48]⟩ : ByteArray))) else (if a0 = 8 then (some ((⟨#[117, 115, 101, 45, 110, 118, 114, 97, 109, 114, 99, 63]⟩ : ByteArray), 98, (⟨#[102, 97, 108, 115, 101]⟩ : ByteArray))) else (some ((⟨#[]⟩ : ByteArray), 0, (⟨#[]⟩ : ByteArray)))))))))))
set_option maxHeartbeats 8000000 in
set_option maxRecDepth 100000 in
theorem tinderref19_Variable.calls (a0 : Int) (r1 : ByteArray) (r2 : Int) (r3 : ByteArray) (w : World) (h : tinderref19_Variable.f a0 = some (r1, r2, r3)) :
    Calls Tryd.prog 47 #[.int .i64 a0] w fun e w' => e = .returned (.tuple #[.string r1, .int .u8 r2, .string r3]) ∧ Drawn0 w w' := by
  have H : (if a0 = 0 then (some ((⟨#[97, 117, 116, 111, 45, 98, 111, 111, 116, 63]⟩ : ByteArray), 98, (⟨#[116, 114, 117, 101]⟩ : ByteArray))) else (if a0 = 1 then (some ((⟨#[98, 111, 111, 116, 45, 100, 101, 118, 105, 99, 101]⟩ : ByteArray), 116, (⟨#[100, 105, 115, 107, 32, 110, 101, 116]⟩ : ByteArray))) else (if a0 = 2 then (some ((⟨#[98, 111, 111, 116, 45, 102, 105, 108, 101]⟩ : ByteArray), 116, (⟨#[]⟩ : ByteArray))) else (if a0 = 3 then (some ((⟨#[98, 111, 111, 116, 45, 108, 105, 109, 105, 116]⟩ : ByteArray), 110, (⟨#[53, 48, 48, 48]⟩ : ByteArray))) else (if a0 = 4 then (some ((⟨#[105, 110, 112, 117, 116, 45, 100, 101, 118, 105, 99, 101]⟩ : ByteArray), 116, (⟨#[107, 101, 121, 98, 111, 97, 114, 100]⟩ : ByteArray))) else (if a0 = 5 then (some ((⟨#[110, 118, 114, 97, 109, 114, 99]⟩ : ByteArray), 116, (⟨#[]⟩ : ByteArray))) else (if a0 = 6 then (some ((⟨#[111, 101, 109, 45, 98, 97, 110, 110, 101, 114]⟩ : ByteArray), 116, (⟨#[]⟩ : ByteArray))) else (if a0 = 7 then (some ((⟨#[115, 99, 114, 101, 101, 110, 45, 116, 117, 114, 110]⟩ : ByteArray), 110, (⟨#[48]⟩ : ByteArray))) else (if a0 = 8 then (some ((⟨#[117, 115, 101, 45, 110, 118, 114, 97, 109, 114, 99, 63]⟩ : ByteArray), 98, (⟨#[102, 97, 108, 115, 101]⟩ : ByteArray))) else (some ((⟨#[]⟩ : ByteArray), 0, (⟨#[]⟩ : ByteArray)))))))))))) = some (r1, r2, r3) := h
  clear h
  by_cases c2 : a0 = 0
  · rw [if_pos c2] at H
    have c2b0 : (a0 == 0) = true := beq_iff_eq.mpr c2
    have c2b1 : (a0 != 0) = false := bne_eq_false_iff_eq.mpr c2
    clear c2
    simp only [Option.some.injEq, Prod.mk.injEq] at H
    obtain ⟨rfl, rfl, rfl⟩ := H
    go_enter Tryd.func47, Tryd.ntmps47
    go_wp2
    go_ret3
    exact ⟨by first | rfl | (simp; done) | (simp [*]; done), by repeat (first | exact Drawn0.refl _ | apply Drawn0.step)⟩
  · rw [if_neg c2] at H
    have c2b0 : (a0 == 0) = false := beq_eq_false_iff_ne.mpr c2
    have c2b1 : (a0 != 0) = true := bne_iff_ne.mpr c2
    by_cases c3 : a0 = 1
    · rw [if_pos c3] at H
      have c3b0 : (a0 == 1) = true := beq_iff_eq.mpr c3
      have c3b1 : (a0 != 1) = false := bne_eq_false_iff_eq.mpr c3
      clear c3
      simp only [Option.some.injEq, Prod.mk.injEq] at H
      obtain ⟨rfl, rfl, rfl⟩ := H
      go_enter Tryd.func47, Tryd.ntmps47
      go_wp2
      go_ret3
      exact ⟨by first | rfl | (simp; done) | (simp [*]; done), by repeat (first | exact Drawn0.refl _ | apply Drawn0.step)⟩
    · rw [if_neg c3] at H
      have c3b0 : (a0 == 1) = false := beq_eq_false_iff_ne.mpr c3
      have c3b1 : (a0 != 1) = true := bne_iff_ne.mpr c3
      by_cases c4 : a0 = 2
      · rw [if_pos c4] at H
        have c4b0 : (a0 == 2) = true := beq_iff_eq.mpr c4
        have c4b1 : (a0 != 2) = false := bne_eq_false_iff_eq.mpr c4
        clear c4
        simp only [Option.some.injEq, Prod.mk.injEq] at H
        obtain ⟨rfl, rfl, rfl⟩ := H
        go_enter Tryd.func47, Tryd.ntmps47
        go_wp2
        go_ret3
        exact ⟨by first | rfl | (simp; done) | (simp [*]; done), by repeat (first | exact Drawn0.refl _ | apply Drawn0.step)⟩
      · rw [if_neg c4] at H
        have c4b0 : (a0 == 2) = false := beq_eq_false_iff_ne.mpr c4
        have c4b1 : (a0 != 2) = true := bne_iff_ne.mpr c4
        by_cases c5 : a0 = 3
        · rw [if_pos c5] at H
          have c5b0 : (a0 == 3) = true := beq_iff_eq.mpr c5
          have c5b1 : (a0 != 3) = false := bne_eq_false_iff_eq.mpr c5
          clear c5
          simp only [Option.some.injEq, Prod.mk.injEq] at H
          obtain ⟨rfl, rfl, rfl⟩ := H
          go_enter Tryd.func47, Tryd.ntmps47
          go_wp2
          go_ret3
          exact ⟨by first | rfl | (simp; done) | (simp [*]; done), by repeat (first | exact Drawn0.refl _ | apply Drawn0.step)⟩
        · rw [if_neg c5] at H
          have c5b0 : (a0 == 3) = false := beq_eq_false_iff_ne.mpr c5
          have c5b1 : (a0 != 3) = true := bne_iff_ne.mpr c5
          by_cases c6 : a0 = 4
          · rw [if_pos c6] at H
            have c6b0 : (a0 == 4) = true := beq_iff_eq.mpr c6
            have c6b1 : (a0 != 4) = false := bne_eq_false_iff_eq.mpr c6
            clear c6
            simp only [Option.some.injEq, Prod.mk.injEq] at H
            obtain ⟨rfl, rfl, rfl⟩ := H
            go_enter Tryd.func47, Tryd.ntmps47
            go_wp2
            go_ret3
            exact ⟨by first | rfl | (simp; done) | (simp [*]; done), by repeat (first | exact Drawn0.refl _ | apply Drawn0.step)⟩
          · rw [if_neg c6] at H
            have c6b0 : (a0 == 4) = false := beq_eq_false_iff_ne.mpr c6
            have c6b1 : (a0 != 4) = true := bne_iff_ne.mpr c6
            by_cases c7 : a0 = 5
            · rw [if_pos c7] at H
              have c7b0 : (a0 == 5) = true := beq_iff_eq.mpr c7
              have c7b1 : (a0 != 5) = false := bne_eq_false_iff_eq.mpr c7
              clear c7
              simp only [Option.some.injEq, Prod.mk.injEq] at H
              obtain ⟨rfl, rfl, rfl⟩ := H
              go_enter Tryd.func47, Tryd.ntmps47
              go_wp2
              go_ret3
              exact ⟨by first | rfl | (simp; done) | (simp [*]; done), by repeat (first | exact Drawn0.refl _ | apply Drawn0.step)⟩
            · rw [if_neg c7] at H
              have c7b0 : (a0 == 5) = false := beq_eq_false_iff_ne.mpr c7
              have c7b1 : (a0 != 5) = true := bne_iff_ne.mpr c7
              by_cases c8 : a0 = 6
              · rw [if_pos c8] at H
                have c8b0 : (a0 == 6) = true := beq_iff_eq.mpr c8
                have c8b1 : (a0 != 6) = false := bne_eq_false_iff_eq.mpr c8
                clear c8
                simp only [Option.some.injEq, Prod.mk.injEq] at H
                obtain ⟨rfl, rfl, rfl⟩ := H
                go_enter Tryd.func47, Tryd.ntmps47
                go_wp2
                go_ret3
                exact ⟨by first | rfl | (simp; done) | (simp [*]; done), by repeat (first | exact Drawn0.refl _ | apply Drawn0.step)⟩
              · rw [if_neg c8] at H
                have c8b0 : (a0 == 6) = false := beq_eq_false_iff_ne.mpr c8
                have c8b1 : (a0 != 6) = true := bne_iff_ne.mpr c8
                by_cases c9 : a0 = 7
                · rw [if_pos c9] at H
                  have c9b0 : (a0 == 7) = true := beq_iff_eq.mpr c9
                  have c9b1 : (a0 != 7) = false := bne_eq_false_iff_eq.mpr c9
                  clear c9
                  simp only [Option.some.injEq, Prod.mk.injEq] at H
                  obtain ⟨rfl, rfl, rfl⟩ := H
                  go_enter Tryd.func47, Tryd.ntmps47
                  go_wp2
                  go_ret3
                  exact ⟨by first | rfl | (simp; done) | (simp [*]; done), by repeat (first | exact Drawn0.refl _ | apply Drawn0.step)⟩
                · rw [if_neg c9] at H
                  have c9b0 : (a0 == 7) = false := beq_eq_false_iff_ne.mpr c9
                  have c9b1 : (a0 != 7) = true := bne_iff_ne.mpr c9
                  by_cases c10 : a0 = 8
                  · rw [if_pos c10] at H
                    have c10b0 : (a0 == 8) = true := beq_iff_eq.mpr c10
                    have c10b1 : (a0 != 8) = false := bne_eq_false_iff_eq.mpr c10
                    clear c10
                    simp only [Option.some.injEq, Prod.mk.injEq] at H
                    obtain ⟨rfl, rfl, rfl⟩ := H
                    go_enter Tryd.func47, Tryd.ntmps47
                    go_wp2
                    go_ret3
                    exact ⟨by first | rfl | (simp; done) | (simp [*]; done), by repeat (first | exact Drawn0.refl _ | apply Drawn0.step)⟩
                  · rw [if_neg c10] at H
                    have c10b0 : (a0 == 8) = false := beq_eq_false_iff_ne.mpr c10
                    have c10b1 : (a0 != 8) = true := bne_iff_ne.mpr c10
                    simp only [Option.some.injEq, Prod.mk.injEq] at H
                    obtain ⟨rfl, rfl, rfl⟩ := H
                    go_enter Tryd.func47, Tryd.ntmps47
                    go_wp2
                    go_ret3
                    exact ⟨by first | rfl | (simp; done) | (simp [*]; done), by repeat (first | exact Drawn0.refl _ | apply Drawn0.step)⟩

end Go.Proofs.YtefhngadeimklaaDoor.Q
end
section
namespace Go.Proofs.YtefhngadeimklaaDoor.Q
open Go.RowKit Go.Proofs.YtefhngadeimklaaDoorW.PrintWords Go.Proofs.YtefhngadeimklaaDoorW.PrintLast Go.Proofs.YtefhngadeimklaaDoorW.PrintMore
set_option linter.unusedVariables false
set_option linter.unusedSimpArgs false

attribute [local go_sem] max2_int min2_int max_two min_two max_three min_three max_four min_four
/-! ### tinderref19_find: function 46 -/
def tinderref19_find.l0 : Nat → ByteArray → Int → Option (Int)
  | 0, _, _ => none
  | k + 1, x0, x3 => if x3 < 9 then ((tinderref19_Variable.f x3).bind fun bt47001 => (if bt47001.1.toList = x0.toList then (some x3) else (tinderref19_find.l0 k x0 (wrap64 (x3 + 1))))) else (some (-1))
def tinderref19_find.f (k : Nat) (a0 : ByteArray) : Option (Int) := tinderref19_find.l0 k a0 0
set_option maxHeartbeats 8000000 in
set_option maxRecDepth 100000 in
theorem tinderref19_find.calls (k : Nat) (a0 : ByteArray) (r : Int) (w : World) (h : tinderref19_find.f k a0 = some r) :
    Calls Tryd.prog 46 #[.string a0] w fun e w' => e = .returned (.int .i64 r) ∧ Drawn0 w w' := by
  have H : (tinderref19_find.l0 k a0 0) = some r := h
  clear h
  have H' := Aside0.mk H
  clear H
  go_enter Tryd.func46, Tryd.ntmps46
  go_wp2
  go_loopg [3] k (fun kq v3 w' => ∃ (x3_1 : Int), v3 = .int .i64 x3_1 ∧ Aside0 (tinderref19_find.l0 kq a0 x3_1 = some r) ∧ Aside0 (kq ≤ k) ∧ Drawn0 w w')
  case atStart => exact ⟨(0), (by first | rfl | (simp; done) | (simp [*]; done)), H', ⟨Nat.le_refl _⟩, by repeat (first | exact Drawn0.refl _ | apply Drawn0.step)⟩
  case round =>
    clear H'
    obtain ⟨x3_1, rfl, HA, HK1, ⟨m1, rfl⟩⟩ := hrel
    cases gk with
    | zero => exact absurd HA.out (by simp [tinderref19_find.l0])
    | succ k1 =>
      have H := HA.out
      clear HA
      simp only [tinderref19_find.l0] at H
      by_cases c2 : x3_1 < 9
      · rw [if_pos c2] at H
        have c2b0 : decide (x3_1 < 9) = true := decide_eq_true c2
        clear c2
        replace H := Option.bind_eq_some_iff.mp H
        obtain ⟨⟨t47001, t47002, t47003⟩, A30, H⟩ := H
        replace H : (if t47001.toList = a0.toList then (some x3_1) else (tinderref19_find.l0 k1 a0 (wrap64 (x3_1 + 1)))) = some r := H
        have A3 := Aside0.mk A30
        clear A30
        by_cases c4 : t47001.toList = a0.toList
        · rw [if_pos c4] at H
          have c4b0 : (t47001.toList == a0.toList) = true := beq_iff_eq.mpr c4
          have c4b1 : (t47001.toList != a0.toList) = false := bne_eq_false_iff_eq.mpr c4
          clear c4
          obtain rfl := Option.some.inj H
          go_wp2_with (first | ((with_reducible refine gate_callee (f := 47) rfl ?_); refine goesL_ (some 13) rfl rfl Tryd.func47 (by kernel_rfl) rfl #[.int .i64 x3_1] rfl (by (try simp only [List.map_toArray, List.map_cons, List.map_nil]); first | done | rfl | (simp only [List.length_drop, List.length_take]; rfl)) ?_; (with_reducible refine (tinderref19_Variable.calls x3_1 t47001 t47002 t47003 _ A3.out).mono ?_); rintro e w' ⟨rfl, ⟨nd, rfl⟩⟩; refine ⟨_, rfl, ?_⟩))
          go_ret
          exact ⟨by first | rfl | (simp; done) | (simp [*]; done), by repeat (first | exact Drawn0.refl _ | apply Drawn0.step)⟩
        · rw [if_neg c4] at H
          have c4b0 : (t47001.toList == a0.toList) = false := beq_eq_false_iff_ne.mpr c4
          have c4b1 : (t47001.toList != a0.toList) = true := bne_iff_ne.mpr c4
          have H' := Aside0.mk H
          clear H
          go_wp2_with (first | ((with_reducible refine gate_callee (f := 47) rfl ?_); refine goesL_ (some 13) rfl rfl Tryd.func47 (by kernel_rfl) rfl #[.int .i64 x3_1] rfl (by (try simp only [List.map_toArray, List.map_cons, List.map_nil]); first | done | rfl | (simp only [List.length_drop, List.length_take]; rfl)) ?_; (with_reducible refine (tinderref19_Variable.calls x3_1 t47001 t47002 t47003 _ A3.out).mono ?_); rintro e w' ⟨rfl, ⟨nd, rfl⟩⟩; refine ⟨_, rfl, ?_⟩))
          go_roundg k1
          case measure => have := HK1.out; omega
          case rel => exact ⟨(wrap64 (x3_1 + 1)), (by first | rfl | (simp; done) | (simp [*]; done)), H', ⟨by have := HK1.out; omega⟩, by repeat (first | exact Drawn0.refl _ | apply Drawn0.step)⟩
      · rw [if_neg c2] at H
        have c2b0 : decide (x3_1 < 9) = false := decide_eq_false c2
        clear c2
        obtain rfl := Option.some.inj H
        go_wp2
        go_ret
        exact ⟨by first | rfl | (simp; done) | (simp [*]; done), by repeat (first | exact Drawn0.refl _ | apply Drawn0.step)⟩

end Go.Proofs.YtefhngadeimklaaDoor.Q
end
section
namespace Go.Proofs.YtefhngadeimklaaDoor.Q
open Go.RowKit Go.Proofs.YtefhngadeimklaaDoorW.PrintWords Go.Proofs.YtefhngadeimklaaDoorW.PrintLast Go.Proofs.YtefhngadeimklaaDoorW.PrintMore
set_option linter.unusedVariables false
set_option linter.unusedSimpArgs false

attribute [local go_sem] max2_int min2_int max_two min_two max_three min_three max_four min_four
/-! ### tinderref19_Default: function 20 -/
def tinderref19_Default.f (k : Nat) (a0 : ByteArray) : Option (ByteArray × Int) := (tinderref19_find.f k a0).bind fun t21001 => (if t21001 < 0 then (some ((⟨#[]⟩ : ByteArray), 2)) else ((tinderref19_Variable.f t21001).bind fun bt21002 => (some (bt21002.2.2, 0))))
set_option maxHeartbeats 8000000 in
set_option maxRecDepth 100000 in
theorem tinderref19_Default.calls (k : Nat) (a0 : ByteArray) (r1 : ByteArray) (r2 : Int) (w : World) (h : tinderref19_Default.f k a0 = some (r1, r2)) :
    Calls Tryd.prog 20 #[.string a0] w fun e w' => e = .returned (.tuple #[.string r1, .int .i64 r2]) ∧ Drawn0 w w' := by
  have H : ((tinderref19_find.f k a0).bind fun t21001 => (if t21001 < 0 then (some ((⟨#[]⟩ : ByteArray), 2)) else ((tinderref19_Variable.f t21001).bind fun bt21002 => (some (bt21002.2.2, 0))))) = some (r1, r2) := h
  clear h
  replace H := Option.bind_eq_some_iff.mp H
  obtain ⟨t21001, A20, H⟩ := H
  replace H : (if t21001 < 0 then (some ((⟨#[]⟩ : ByteArray), 2)) else ((tinderref19_Variable.f t21001).bind fun bt21002 => (some (bt21002.2.2, 0)))) = some (r1, r2) := H
  have A2 := Aside0.mk A20
  clear A20
  by_cases c3 : t21001 < 0
  · rw [if_pos c3] at H
    have c3b0 : decide (t21001 < 0) = true := decide_eq_true c3
    clear c3
    simp only [Option.some.injEq, Prod.mk.injEq] at H
    obtain ⟨rfl, rfl⟩ := H
    go_enter Tryd.func20, Tryd.ntmps20
    go_wp2_with (first | ((with_reducible refine gate_callee (f := 46) rfl ?_); refine goesL_ (some 9) rfl rfl Tryd.func46 (by kernel_rfl) rfl #[.string a0] rfl (by (try simp only [List.map_toArray, List.map_cons, List.map_nil]); first | done | rfl | (simp only [List.length_drop, List.length_take]; rfl)) ?_; (with_reducible refine (tinderref19_find.calls k a0 t21001 _ A2.out).mono ?_); rintro e w' ⟨rfl, ⟨nd, rfl⟩⟩; refine ⟨_, rfl, ?_⟩))
    go_ret2
    exact ⟨by first | rfl | (simp; done) | (simp [*]; done), by repeat (first | exact Drawn0.refl _ | apply Drawn0.step)⟩
  · rw [if_neg c3] at H
    have c3b0 : decide (t21001 < 0) = false := decide_eq_false c3
    clear c3
    replace H := Option.bind_eq_some_iff.mp H
    obtain ⟨⟨t21002, t21003, t21004⟩, A40, H⟩ := H
    replace H : (some (t21004, 0)) = some (r1, r2) := H
    have A4 := Aside0.mk A40
    clear A40
    simp only [Option.some.injEq, Prod.mk.injEq] at H
    obtain ⟨rfl, rfl⟩ := H
    go_enter Tryd.func20, Tryd.ntmps20
    go_wp2_with (first | ((with_reducible refine gate_callee (f := 46) rfl ?_); refine goesL_ (some 9) rfl rfl Tryd.func46 (by kernel_rfl) rfl #[.string a0] rfl (by (try simp only [List.map_toArray, List.map_cons, List.map_nil]); first | done | rfl | (simp only [List.length_drop, List.length_take]; rfl)) ?_; (with_reducible refine (tinderref19_find.calls k a0 t21001 _ A2.out).mono ?_); rintro e w' ⟨rfl, ⟨nd, rfl⟩⟩; refine ⟨_, rfl, ?_⟩) | ((with_reducible refine gate_callee (f := 47) rfl ?_); refine goesL_ (some 14) rfl rfl Tryd.func47 (by kernel_rfl) rfl #[.int .i64 t21001] rfl (by (try simp only [List.map_toArray, List.map_cons, List.map_nil]); first | done | rfl | (simp only [List.length_drop, List.length_take]; rfl)) ?_; (with_reducible refine (tinderref19_Variable.calls t21001 t21002 t21003 t21004 _ A4.out).mono ?_); rintro e w' ⟨rfl, ⟨nd, rfl⟩⟩; refine ⟨_, rfl, ?_⟩))
    go_ret2
    exact ⟨by first | rfl | (simp; done) | (simp [*]; done), by repeat (first | exact Drawn0.refl _ | apply Drawn0.step)⟩

end Go.Proofs.YtefhngadeimklaaDoor.Q
end
