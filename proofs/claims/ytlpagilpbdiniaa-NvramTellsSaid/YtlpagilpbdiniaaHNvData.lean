/- What a bank's data are. -/
import Derived.Test.YtlpagilpbdiniaaHNvSum
import Derived.Test.YtlpagilpbdiniaaHWords
import Derived.Test.YtlpagilpbdiniaaQNvramFour
import Derived.Test.YtlpagilpbdiniaaQSlicesEqualByteByte
namespace Go.Proofs.Ytlpagilpbdiniaa.Q
open Go.RowKit Go.Proofs.YtlpagilpbdiniaaW.PrintWords Go.Proofs.YtlpagilpbdiniaaW.PrintLast Go.Proofs.YtlpagilpbdiniaaW.PrintMore
def lenF (B : List Int) : Int := rd B 2 * 256 + rd B 3
def fourF (x : Int) : List Int := [x / 16777216 % 256, x / 65536 % 256, x / 256 % 256, x % 256]
/-- The data of a bank, and whether it is right. -/
def dataF (B : List Int) : List Int × Bool :=
  if rd B 0 = 165 ∧ lenF B ≤ 248 then ((B.drop 8).take (lenF B).toNat, decide (fourF (sumF (rd B 1) ((B.drop 8).take (lenF B).toNat)) = (B.drop 4).take 4)) else ([], false)
theorem bits_or_i64_nat (a b : Nat) (ha : a < 4294967296) (hb : b < 4294967296) : bits BinOp.or IntKind.i64 (a : Int) (b : Int) = ((a ||| b : Nat) : Int) := by
  have hx : a ||| b < 2 ^ 32 := Nat.or_lt_two_pow (by omega) (by omega)
  have h1 : (BitVec.ofInt 64 (a : Int)).toNat = a := by
    rw [BitVec.ofInt_natCast, BitVec.toNat_ofNat]; exact Nat.mod_eq_of_lt (by omega)
  have h2 : (BitVec.ofInt 64 (b : Int)).toNat = b := by
    rw [BitVec.ofInt_natCast, BitVec.toNat_ofNat]; exact Nat.mod_eq_of_lt (by omega)
  show IntKind.i64.wrap ((BitVec.ofInt 64 (a : Int) ||| BitVec.ofInt 64 (b : Int)).toNat : Int) = _
  rw [BitVec.toNat_or, h1, h2, i64_w]
  unfold wrap64
  omega
theorem or_256 (a b : Int) (ha : 0 ≤ a ∧ a < 256) (hb : 0 ≤ b ∧ b < 256) : bits BinOp.or IntKind.i64 (a * 256) b = a * 256 + b := by
  obtain ⟨x, rfl⟩ := Int.eq_ofNat_of_zero_le ha.1
  obtain ⟨y, rfl⟩ := Int.eq_ofNat_of_zero_le hb.1
  have e : (x : Int) * 256 = ((256 * x : Nat) : Int) := by omega
  rw [e, bits_or_i64_nat _ _ (by omega) (by omega), show 256 * x = 2 ^ 8 * x by rfl, ← Nat.two_pow_add_eq_or_of_lt (show y < 2 ^ 8 by omega)]
  omega
theorem equal_go (x y : List Int) (hl : x.length = y.length) (hb : x.length ≤ 1000000000000000) (d : Nat) : ∀ (k : Nat) (i : Int), 0 ≤ i → i + d = x.length → d < k → slices_Equal_byte_byte.l0 k x y x.length i = some (decide (x.drop i.toNat = y.drop i.toNat)) := by
  induction d with
  | zero =>
    intro k i h0 h1 hk
    obtain ⟨k, rfl⟩ : ∃ m, k = m + 1 := ⟨k - 1, by omega⟩
    simp only [slices_Equal_byte_byte.l0]
    rw [if_neg (by omega), List.drop_eq_nil_of_le (by omega), List.drop_eq_nil_of_le (by omega)]
    rfl
  | succ d ih =>
    intro k i h0 h1 hk
    obtain ⟨k, rfl⟩ : ∃ m, k = m + 1 := ⟨k - 1, by omega⟩
    have hix : i.toNat < x.length := by omega
    have hiy : i.toNat < y.length := by omega
    have r1 : rd x i = x[i.toNat] := by simp [rd, List.getD_eq_getElem?_getD, List.getElem?_eq_getElem hix]
    have r2 : rd y i = y[i.toNat] := by simp [rd, List.getD_eq_getElem?_getD, List.getElem?_eq_getElem hiy]
    have e1 : wrap64 (i + 1) = i + 1 := by unfold wrap64; omega
    simp only [slices_Equal_byte_byte.l0]
    rw [if_pos (by omega), if_pos h0, if_pos (by omega), if_pos (by omega), r1, r2, e1, List.drop_eq_getElem_cons hix, List.drop_eq_getElem_cons hiy]
    by_cases he : x[i.toNat] = y[i.toNat]
    · rw [if_pos he, ih k (i + 1) (by omega) (by omega) (by omega), show (i + 1).toNat = i.toNat + 1 by omega, Option.some.injEq, decide_eq_decide, List.cons.injEq]
      exact ⟨fun h => ⟨he, h⟩, fun h => h.2⟩
    · rw [if_neg he, Option.some.injEq, eq_comm, decide_eq_false_iff_not, List.cons.injEq]
      exact fun h => he h.1
theorem equal_eq (k : Nat) (x y : List Int) (hb : x.length ≤ 1000000000000000) (hk : x.length < k) : slices_Equal_byte_byte.f k x y = some (decide (x = y)) := by
  unfold slices_Equal_byte_byte.f
  by_cases hl : x.length = y.length
  · rw [if_pos (by omega), equal_go x y hl hb x.length k 0 (by omega) (by omega) hk]
    simp
  · rw [if_neg (by omega), Option.some.injEq, eq_comm, decide_eq_false_iff_not]
    intro e
    exact hl (by rw [e])
theorem arr_cut (b o : Nat) (l h : Int) (h0 : 0 ≤ l) (h1 : l ≤ h) (h2 : h ≤ 256) (h3 : l < 256) (W : World) : (Instr.sliceAt 49 (.pointer (some ⟨b, o, none⟩)) (some (.int .i64 l)) (some (.int .i64 h)) none).run Try.prog W = .ok (.slice (some ⟨b, o + l.toNat, none⟩) (h.toNat - l.toNat) (256 - l.toNat)) W := by
  have hal : Try.prog.arrayLen 49 = 256 := by kernel_rfl
  have hel : Try.prog.elem 49 = 5 := by kernel_rfl
  have hsz : (Try.prog.info? 5).map (·.size) = some 1 := by kernel_rfl
  rw [run_sliceAt_array_lh W 49 ⟨b, o, none⟩ (by rw [hal, hel]; exact Try.underlying49) .i64 .i64 l h h0 h1 (by rw [hal]; omega), hel, run_size hsz, hal]
  simp only [Result.andThen, slicedAt]
  rw [if_neg (by omega), Nat.mul_one]
  unfold Addr.add
  split
  · rename_i hz
    rw [hz]
    rfl
  · rfl
set_option maxHeartbeats 4000000 in
set_option maxRecDepth 100000 in
theorem data_calls (b o : Nat) (B : List Int) (w : World) (hB : Kd.C (Kd.int .u8) w (some ⟨b, o, none⟩) 256 B) (hr : ∀ a ∈ B, 0 ≤ a ∧ a < 256) :
    Calls Try.prog 25 #[.pointer (some ⟨b, o, none⟩)] w fun e w' => ∃ (A : Option Addr) (c : Nat), e = .returned (.tuple #[.slice A (dataF B).1.length c, .bool (dataF B).2]) ∧ Kd.C (Kd.int .u8) w A (dataF B).1.length (dataF B).1 ∧ (dataF B).1.length ≤ c ∧ Below w.heap.size w w' := by
  have hl := Kd.C_len hB
  have hx : ∀ i : Int, 0 ≤ i → i < 256 → w.cell? ((⟨b, o, none⟩ : Addr).add i.toNat) = some (.int .u8 (rd B i)) := fun i h0 h1 => by
    obtain ⟨ad', ea, h⟩ := Kd.at_int hB i h0 (by omega)
    cases ea
    exact h
  have hrr : ∀ i : Int, 0 ≤ i → i < 256 → 0 ≤ rd B i ∧ rd B i < 256 := fun i h0 h1 => by
    have : rd B i = B[i.toNat]'(by omega) := by simp [rd, List.getD_eq_getElem?_getD, List.getElem?_eq_getElem (show i.toNat < B.length by omega)]
    rw [this]
    exact hr _ (List.getElem_mem _)
  have h0 : w.cell? ⟨b, o, none⟩ = some (.int .u8 (rd B 0)) := hx 0 (by omega) (by omega)
  have h1 : w.cell? ⟨b, o + 1, none⟩ = some (.int .u8 (rd B 1)) := hx 1 (by omega) (by omega)
  have h2 : w.cell? ⟨b, o + 2, none⟩ = some (.int .u8 (rd B 2)) := hx 2 (by omega) (by omega)
  have h3 : w.cell? ⟨b, o + 3, none⟩ = some (.int .u8 (rd B 3)) := hx 3 (by omega) (by omega)
  obtain ⟨R, hR⟩ : ∃ R, R = dataF B := ⟨_, rfl⟩
  rw [← hR]
  go_enter Try.func25, Try.ntmps25
  go_wp2
  refine start_ (n := 13) (S := fun w' => w'.cell? ⟨b, o + 2, none⟩ = some (.int .u8 (rd B 2)) ∧ w'.cell? ⟨b, o + 3, none⟩ = some (.int .u8 (rd B 3))) (ds := []) #[false, false, false, false, false, false, false, false, false, false, false, false, false] (by kernel_rfl) rfl rfl ⟨h2, h3⟩ (fun hHeld => ?_)
  refine pure_ (i := 0) (N := some 6) (v := ?_) (a' := ?_) #[true, false, false, false, false, false, false, false, false, false, false, false, false] rfl rfl (by kernel_rfl) (fun _ _ _ h => h) (Or.inl ⟨by rfl, ?_⟩) ?_ ?_
  rotate_left
  · intro w'
    go_simp
    with_reducible rfl
  rotate_left
  · simp only [Act.put, List.setIfInBounds_toArray, List.set_cons_zero, List.set_cons_succ]
    rfl
  refine pure_ (i := 1) (N := some 7) (v := ?_) (a' := ?_) #[true, true, false, false, false, false, false, false, false, false, false, false, false] rfl rfl (by kernel_rfl) (fun _ _ _ h => h) (Or.inl ⟨by rfl, ?_⟩) ?_ ?_
  rotate_left
  · intro w'
    go_simp
    with_reducible rfl
  rotate_left
  · simp only [Act.put, List.setIfInBounds_toArray, List.set_cons_zero, List.set_cons_succ]
    rfl
  refine pure_ (i := 2) (N := some 8) (v := ?_) (a' := ?_) #[true, true, true, false, false, false, false, false, false, false, false, false, false] rfl rfl (by kernel_rfl) (fun _ _ _ h => h) (Or.inl ⟨by rfl, ?_⟩) ?_ ?_
  rotate_left
  · intro w'
    go_simp
    with_reducible rfl
  rotate_left
  · simp only [Act.put, List.setIfInBounds_toArray, List.set_cons_zero, List.set_cons_succ]
    rfl
  refine take_ (i := 3) (N := some 9) (v := .int .u8 (rd B 2)) (a' := ?_) #[true, true, true, true, false, false, false, false, false, false, false, false, false] rfl rfl (by kernel_rfl) (fun _ _ _ h => h) (Or.inl ⟨by rfl, ?_⟩) hHeld ?_ ?_
  rotate_left
  rotate_left
  · simp only [Act.put, List.setIfInBounds_toArray, List.set_cons_zero, List.set_cons_succ]
    rfl
  rotate_left
  · rintro w' ⟨s0, s1⟩
    go_simp
  refine pure_ (i := 4) (N := some 10) (v := ?_) (a' := ?_) #[true, true, true, true, true, false, false, false, false, false, false, false, false] rfl rfl (by kernel_rfl) (fun _ _ _ h => h) (Or.inl ⟨by rfl, ?_⟩) ?_ ?_
  rotate_left
  · intro w'
    go_simp
    with_reducible rfl
  rotate_left
  · simp only [Act.put, List.setIfInBounds_toArray, List.set_cons_zero, List.set_cons_succ]
    rfl
  refine pure_ (i := 5) (N := some 11) (v := ?_) (a' := ?_) #[true, true, true, true, true, true, false, false, false, false, false, false, false] rfl rfl (by kernel_rfl) (fun _ _ _ h => h) (Or.inl ⟨by rfl, ?_⟩) ?_ ?_
  rotate_left
  · intro w'
    go_simp
    with_reducible rfl
  rotate_left
  · simp only [Act.put, List.setIfInBounds_toArray, List.set_cons_zero, List.set_cons_succ]
    rfl
  refine pure_ (i := 6) (N := some 12) (v := ?_) (a' := ?_) #[true, true, true, true, true, true, true, false, false, false, false, false, false] rfl rfl (by kernel_rfl) (fun _ _ _ h => h) (Or.inl ⟨by rfl, ?_⟩) ?_ ?_
  rotate_left
  · intro w'
    go_simp
    with_reducible rfl
  rotate_left
  · simp only [Act.put, List.setIfInBounds_toArray, List.set_cons_zero, List.set_cons_succ]
    rfl
  refine pure_ (i := 7) (N := some 13) (v := ?_) (a' := ?_) #[true, true, true, true, true, true, true, true, false, false, false, false, false] rfl rfl (by kernel_rfl) (fun _ _ _ h => h) (Or.inl ⟨by rfl, ?_⟩) ?_ ?_
  rotate_left
  · intro w'
    go_simp
    with_reducible rfl
  rotate_left
  · simp only [Act.put, List.setIfInBounds_toArray, List.set_cons_zero, List.set_cons_succ]
    rfl
  refine pure_ (i := 8) (N := some 14) (v := ?_) (a' := ?_) #[true, true, true, true, true, true, true, true, true, false, false, false, false] rfl rfl (by kernel_rfl) (fun _ _ _ h => h) (Or.inl ⟨by rfl, ?_⟩) ?_ ?_
  rotate_left
  · intro w'
    go_simp
    with_reducible rfl
  rotate_left
  · simp only [Act.put, List.setIfInBounds_toArray, List.set_cons_zero, List.set_cons_succ]
    rfl
  refine take_ (i := 9) (N := some 15) (v := .int .u8 (rd B 3)) (a' := ?_) #[true, true, true, true, true, true, true, true, true, true, false, false, false] rfl rfl (by kernel_rfl) (fun _ _ _ h => h) (Or.inl ⟨by rfl, ?_⟩) hHeld ?_ ?_
  rotate_left
  rotate_left
  · simp only [Act.put, List.setIfInBounds_toArray, List.set_cons_zero, List.set_cons_succ]
    rfl
  rotate_left
  · rintro w' ⟨s0, s1⟩
    go_simp
  refine pure_ (i := 10) (N := some 16) (v := ?_) (a' := ?_) #[true, true, true, true, true, true, true, true, true, true, true, false, false] rfl rfl (by kernel_rfl) (fun _ _ _ h => h) (Or.inl ⟨by rfl, ?_⟩) ?_ ?_
  rotate_left
  · intro w'
    go_simp
    with_reducible rfl
  rotate_left
  · simp only [Act.put, List.setIfInBounds_toArray, List.set_cons_zero, List.set_cons_succ]
    rfl
  refine pure_ (i := 11) (N := some 17) (v := ?_) (a' := ?_) #[true, true, true, true, true, true, true, true, true, true, true, true, false] rfl rfl (by kernel_rfl) (fun _ _ _ h => h) (Or.inl ⟨by rfl, ?_⟩) ?_ ?_
  rotate_left
  · intro w'
    go_simp
    with_reducible rfl
  rotate_left
  · simp only [Act.put, List.setIfInBounds_toArray, List.set_cons_zero, List.set_cons_succ]
    rfl
  refine pure_ (i := 12) (N := some 4) (v := ?_) (a' := ?_) #[true, true, true, true, true, true, true, true, true, true, true, true, true] rfl rfl (by kernel_rfl) (fun _ _ _ h => h) (Or.inl ⟨by rfl, ?_⟩) ?_ ?_
  rotate_left
  · intro w'
    go_simp
    with_reducible rfl
  rotate_left
  · simp only [Act.put, List.setIfInBounds_toArray, List.set_cons_zero, List.set_cons_succ]
    rfl
  refine done_ (n := 0) (by kernel_rfl) ?_
  have b1 := hrr 1 (by omega) (by omega)
  have b2 := hrr 2 (by omega) (by omega)
  have b3 := hrr 3 (by omega) (by omega)
  have en : bits BinOp.or IntKind.i64 (IntKind.i64.wrap (IntKind.i64.wrap (rd B 2) * 256)) (IntKind.i64.wrap (rd B 3)) = lenF B := by
    have e : ∀ x : Int, 0 ≤ x → x < 1000000 → IntKind.i64.wrap x = x := fun x h1 h2 => (i64_w _).trans (by unfold wrap64; omega)
    rw [e (rd B 2) (by omega) (by omega), e _ (by omega) (by omega), e _ (by omega) (by omega), or_256 _ _ b2 b3, lenF]
  have hn0 : 0 ≤ lenF B := by unfold lenF; omega
  rw [en]
  obtain ⟨n, hn⟩ : ∃ n, n = lenF B := ⟨_, rfl⟩
  rw [← hn] at hn0 ⊢
  unfold dataF at hR
  rw [← hn] at hR
  by_cases c0 : rd B 0 = 165
  · have d0 : (rd B 0 != 165) = false := by simp [c0]
    by_cases c1 : n ≤ 248
    · have d1 : decide (248 < n) = false := decide_eq_false (by omega)
      have e8 : IntKind.i64.wrap (8 + n) = 8 + n := (i64_w _).trans (by unfold wrap64; omega)
      rw [if_pos ⟨c0, c1⟩] at hR
      obtain ⟨d, hd⟩ : ∃ d, d = (B.drop 8).take n.toNat := ⟨_, rfl⟩
      rw [← hd] at hR
      have HR := Aside0.mk hR
      have hcut : ∀ W : World, (Instr.sliceAt 49 (.pointer (some ⟨b, o, none⟩)) (some (.int .i64 8)) (some (.int .i64 (8 + n))) none).run Try.prog W = .ok (.slice (some ⟨b, o + 8, none⟩) n.toNat 248) W := fun W => by
        rw [arr_cut b o 8 (8 + n) (by omega) (by omega) (by omega) (by omega)]
        rw [show (8 + n).toNat - (8 : Int).toNat = n.toNat by omega]
        rfl
      clear hR
      have HC1 := Aside0.mk c1
      have hdl : d.length = n.toNat := by rw [hd, List.length_take, List.length_drop]; omega
      have hcut2 : ∀ W : World, (Instr.sliceAt 49 (.pointer (some ⟨b, o, none⟩)) (some (.int .i64 4)) (some (.int .i64 8)) none).run Try.prog W = .ok (.slice (some ⟨b, o + 4, none⟩) 4 252) W := fun W => arr_cut b o 4 8 (by omega) (by omega) (by omega) (by omega) W
      have HC8 := Aside0.mk (show Kd.C (Kd.int .u8) w (some ⟨b, o + 8, none⟩) n.toNat d from by rw [hd]; exact C_cut hB (c := 256) (by omega) 8 n.toNat (by omega))
      have HC4 := Aside0.mk (show Kd.C (Kd.int .u8) w (some ⟨b, o + 4, none⟩) 4 ((B.drop 4).take 4) from C_cut hB (c := 256) (by omega) 4 4 (by omega))
      have HSum := Aside0.mk (show ∀ W : World, Kd.C (Kd.int .u8) W (some ⟨b, o + 8, none⟩) n.toNat d → Calls Try.prog 11 #[.int .u8 (rd B 1), .slice (some ⟨b, o + 8, none⟩) n.toNat 248] W (fun e w' => e = .returned (.int .u32 (sumF (rd B 1) d)) ∧ Below W.heap.size W w') from fun W h => by
        rw [← hdl] at h ⊢
        exact nvram_Sum.calls _ _ _ _ _ _ h (by omega) rfl)
      obtain ⟨M, hM⟩ : ∃ M, M = (B.drop 4).take 4 := ⟨_, rfl⟩
      rw [← hM] at HR HC4
      have HML := Aside0.mk (show M.length = 4 by rw [hM, List.length_take, List.length_drop]; omega)
      have HDL := Aside0.mk hdl
      have HEq := Aside0.mk (show ∀ (W : World) (A4 : Option Addr) (c4 : Nat), Kd.C (Kd.int .u8) W A4 (fourF (sumF (rd B 1) d)).length (fourF (sumF (rd B 1) d)) → (fourF (sumF (rd B 1) d)).length ≤ c4 → Kd.C (Kd.int .u8) W (some ⟨b, o + 4, none⟩) 4 M → Calls Try.prog 32 #[.slice A4 (fourF (sumF (rd B 1) d)).length c4, .slice (some ⟨b, o + 4, none⟩) 4 252] W (fun e w' => e = .returned (.bool (decide (fourF (sumF (rd B 1) d) = M))) ∧ Drawn0 W w') from fun W A4 c4 h1 h2 h3 => by
        have hm := HML.out
        have h3' : Kd.C (Kd.int .u8) W (some ⟨b, o + 4, none⟩) M.length M := by rw [hm]; exact h3
        have h4 := slices_Equal_byte_byte.calls 10 A4 c4 _ (some ⟨b, o + 4, none⟩) 252 M _ W h1 h2 h3' (by omega) (equal_eq 10 _ M (by simp [fourF]) (by simp [fourF]))
        rw [hm] at h4
        exact h4)
      clear c0 c1 en hn hdl hd hM hB hr hx hrr hl h2 h3 b1 b2 b3 hn0
      go_wp2
      refine start_ (n := 14) (S := fun w' => w'.cell? ⟨b, o + 1, none⟩ = some (.int .u8 (rd B 1))) (ds := [6, 7, 11]) #[false, false, false, false, false, false, false, false, false, false, false, false, false, false] (by kernel_rfl) rfl rfl h1 (fun hHeld => ?_)
      refine pure_ (i := 0) (N := some 32) (v := ?_) (a' := ?_) #[true, false, false, false, false, false, false, false, false, false, false, false, false, false] rfl rfl (by kernel_rfl) (fun _ _ _ h => h) (Or.inl ⟨by rfl, ?_⟩) ?_ ?_
      rotate_left
      · intro w'
        go_simp
        with_reducible rfl
      rotate_left
      · simp only [Act.put, List.setIfInBounds_toArray, List.set_cons_zero, List.set_cons_succ]
        rfl
      refine pure_ (i := 1) (N := some 33) (v := ?_) (a' := ?_) #[true, true, false, false, false, false, false, false, false, false, false, false, false, false] rfl rfl (by kernel_rfl) (fun _ _ _ h => h) (Or.inl ⟨by rfl, ?_⟩) ?_ ?_
      rotate_left
      · intro w'
        go_simp
        with_reducible rfl
      rotate_left
      · simp only [Act.put, List.setIfInBounds_toArray, List.set_cons_zero, List.set_cons_succ]
        rfl
      refine pure_ (i := 2) (N := some 34) (v := ?_) (a' := ?_) #[true, true, true, false, false, false, false, false, false, false, false, false, false, false] rfl rfl (by kernel_rfl) (fun _ _ _ h => h) (Or.inl ⟨by rfl, ?_⟩) ?_ ?_
      rotate_left
      · intro w'
        go_simp
        with_reducible rfl
      rotate_left
      · simp only [Act.put, List.setIfInBounds_toArray, List.set_cons_zero, List.set_cons_succ]
        rfl
      refine pure_ (i := 3) (N := some 35) (v := ?_) (a' := ?_) #[true, true, true, true, false, false, false, false, false, false, false, false, false, false] rfl rfl (by kernel_rfl) (fun _ _ _ h => h) (Or.inl ⟨by rfl, ?_⟩) ?_ ?_
      rotate_left
      · intro w'
        go_simp
        with_reducible rfl
      rotate_left
      · simp only [Act.put, List.setIfInBounds_toArray, List.set_cons_zero, List.set_cons_succ]
        rfl
      refine take_ (i := 4) (N := some 36) (v := .int .u8 (rd B 1)) (a' := ?_) #[true, true, true, true, true, false, false, false, false, false, false, false, false, false] rfl rfl (by kernel_rfl) (fun _ _ _ h => h) (Or.inl ⟨by rfl, ?_⟩) hHeld ?_ ?_
      rotate_left
      rotate_left
      · simp only [Act.put, List.setIfInBounds_toArray, List.set_cons_zero, List.set_cons_succ]
        rfl
      rotate_left
      · rintro w' s0
        go_simp
      refine pure_ (i := 5) (N := some 37) (v := ?_) (a' := ?_) #[true, true, true, true, true, true, false, false, false, false, false, false, false, false] rfl rfl (by kernel_rfl) (fun _ _ _ h => h) (Or.inl ⟨by rfl, ?_⟩) ?_ ?_
      rotate_left
      · intro w'
        go_simp
        with_reducible rfl
      rotate_left
      · simp only [Act.put, List.setIfInBounds_toArray, List.set_cons_zero, List.set_cons_succ]
        rfl
      refine pure_ (i := 8) (N := some 40) (v := ?_) (a' := ?_) #[true, true, true, true, true, true, false, false, true, false, false, false, false, false] rfl rfl (by kernel_rfl) (fun _ _ _ h => h) (Or.inl ⟨by rfl, ?_⟩) ?_ ?_
      rotate_left
      · intro w'
        go_simp
        with_reducible rfl
      rotate_left
      · simp only [Act.put, List.setIfInBounds_toArray, List.set_cons_zero, List.set_cons_succ]
        rfl
      refine pure_ (i := 9) (N := some 41) (v := ?_) (a' := ?_) #[true, true, true, true, true, true, false, false, true, true, false, false, false, false] rfl rfl (by kernel_rfl) (fun _ _ _ h => h) (Or.inl ⟨by rfl, ?_⟩) ?_ ?_
      rotate_left
      · intro w'
        go_simp
        with_reducible rfl
      rotate_left
      · simp only [Act.put, List.setIfInBounds_toArray, List.set_cons_zero, List.set_cons_succ]
        rfl
      refine pure_ (i := 10) (N := some 42) (v := ?_) (a' := ?_) #[true, true, true, true, true, true, false, false, true, true, true, false, false, false] rfl rfl (by kernel_rfl) (fun _ _ _ h => h) (Or.inl ⟨by rfl, ?_⟩) ?_ ?_
      rotate_left
      · intro w'
        go_simp
        with_reducible rfl
      rotate_left
      · simp only [Act.put, List.setIfInBounds_toArray, List.set_cons_zero, List.set_cons_succ]
        rfl
      refine last_ (i := 6) (N := some 38) #[true, true, true, true, true, true, true, false, true, true, true, false, false, false] rfl rfl (by kernel_rfl) (by decide) (fun K hK => ?_)
      refine goes_ Try.func11 (by kernel_rfl) rfl #[.int .u8 (rd B 1), .slice (some ⟨b, o + 8, none⟩) n.toNat 248] (by rfl) rfl rfl (by first | rfl | (simp only [List.map_toArray, List.map_cons, List.map_nil]; rfl)) ?_
      refine (HSum.out _ (Kd.C_drew (Kd.C_drew HC8.out))).mono ?_
      rintro e w1 ⟨rfl, hb⟩
      refine ⟨_, rfl, hK.out _ _ ?_⟩
      have HB1 := Aside0.mk (below_step (below_drew (below_drew (Below.refl _ _))) hb)
      clear hb hHeld
      clear hK K
      simp only [Act.put, List.setIfInBounds_toArray, List.set_cons_zero, List.set_cons_succ]
      refine last_ (i := 7) (N := some 39) #[true, true, true, true, true, true, true, true, true, true, true, false, false, false] rfl rfl (by kernel_rfl) (by decide) (fun K hK => ?_)
      refine goes_ Try.func30 (by kernel_rfl) rfl #[.int .u32 (sumF (rd B 1) d)] (by rfl) rfl rfl (by first | rfl | (simp only [List.map_toArray, List.map_cons, List.map_nil]; rfl)) ?_
      refine (nvram_four.calls (sumF (rd B 1) d) (fourF (sumF (rd B 1) d)) _ rfl).mono ?_
      rintro e w2 ⟨v4, rfl, ho, hb⟩
      obtain ⟨A4, c4, rfl⟩ := Kd.R_slice ho
      refine ⟨_, rfl, hK.out _ _ ?_⟩
      have HO := Aside0.mk ho
      have HB2 := Aside0.mk (below_step HB1.out hb)
      clear hb ho
      clear hK K
      simp only [Act.put, List.setIfInBounds_toArray, List.set_cons_zero, List.set_cons_succ]
      refine last_ (i := 11) (N := some 43) #[true, true, true, true, true, true, true, true, true, true, true, true, false, false] rfl rfl (by kernel_rfl) (by decide) (fun K hK => ?_)
      refine goes_ Try.func32 (by kernel_rfl) rfl #[.slice A4 (fourF (sumF (rd B 1) d)).length c4, .slice (some ⟨b, o + 4, none⟩) 4 252] (by rfl) rfl rfl (by first | rfl | (simp only [List.map_toArray, List.map_cons, List.map_nil]; rfl)) ?_
      refine (HEq.out _ _ _ (Kd.R_reads' HO.out).2.2 (Kd.R_reads' HO.out).2.1 (Kd.C_below HC4.out HB2.out)).mono ?_
      rintro e w3 ⟨rfl, ⟨nd, rfl⟩⟩
      refine ⟨_, rfl, hK.out _ _ ?_⟩
      have HB3 := Aside0.mk (pw_below_drewN HB2.out nd)
      clear hK K
      simp only [Act.put, List.setIfInBounds_toArray, List.set_cons_zero, List.set_cons_succ]
      refine pure_ (i := 12) (N := some 2) (v := ?_) (a' := ?_) #[true, true, true, true, true, true, true, true, true, true, true, true, true, false] rfl rfl (by kernel_rfl) (fun _ _ _ h => h) (Or.inl ⟨by rfl, ?_⟩) ?_ ?_
      rotate_left
      · intro w'
        go_simp
        with_reducible rfl
      rotate_left
      · simp only [Act.put, List.setIfInBounds_toArray, List.set_cons_zero, List.set_cons_succ]
        rfl
      refine pure_ (i := 13) (N := some 3) (v := ?_) (a' := ?_) #[true, true, true, true, true, true, true, true, true, true, true, true, true, true] rfl rfl (by kernel_rfl) (fun _ _ _ h => h) (Or.inl ⟨by rfl, ?_⟩) ?_ ?_
      rotate_left
      · intro w'
        go_simp
        with_reducible rfl
      rotate_left
      · simp only [Act.put, List.setIfInBounds_toArray, List.set_cons_zero, List.set_cons_succ]
        rfl
      refine done_ (n := 0) (by kernel_rfl) ?_
      go_wp2
      go_ret2
      rw [HR.out]
      refine ⟨_, _, by rw [show (d, decide (fourF (sumF (rd B 1) d) = M)).1.length = n.toNat from HDL.out]; rfl, ?_, ?_, HB3.out⟩
      · rw [show (d, decide (fourF (sumF (rd B 1) d) = M)).1.length = n.toNat from HDL.out]
        exact HC8.out
      · show d.length ≤ 248
        have := HDL.out
        have := HC1.out
        omega
    · have d1 : decide (248 < n) = true := decide_eq_true (by omega)
      rw [if_neg (fun x => c1 x.2)] at hR
      have HR := Aside0.mk hR
      clear hR
      clear c0 c1 en hn
      go_wp2
      go_ret2
      rw [HR.out]
      exact ⟨none, 0, rfl, Kd.C_nil _ _, by simp, below_drew (Below.refl _ _)⟩
  · have d0 : (rd B 0 != 165) = true := by simp [c0]
    rw [if_neg (fun x => c0 x.1)] at hR
    have HR := Aside0.mk hR
    clear hR
    clear c0 en hn
    go_wp2
    go_ret2
    rw [HR.out]
    exact ⟨none, 0, rfl, Kd.C_nil _ _, by simp, below_drew (Below.refl _ _)⟩
end Go.Proofs.Ytlpagilpbdiniaa.Q
