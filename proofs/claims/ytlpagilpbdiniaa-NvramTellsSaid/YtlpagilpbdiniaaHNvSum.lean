/- What nvram.Sum answers: a fold over the bytes; and that the reference's sum is the same. -/
import Derived.Test.YtlpagilpbdiniaaQ0
import Derived.Test.YtlpagilpbdiniaaQTinderref18Sum
import Derived.Laws.Bits64
namespace Go.Proofs.Ytlpagilpbdiniaa.Q
open Go.RowKit Go.Proofs.YtlpagilpbdiniaaW.PrintWords Go.Proofs.YtlpagilpbdiniaaW.PrintLast Go.Proofs.YtlpagilpbdiniaaW.PrintMore
def stepF (h c : Int) : Int := bits .xor .u32 h (c % 4294967296) * 16777619 % 4294967296
def sumF (g : Int) (l : List Int) : Int := l.foldl stepF (stepF (stepF (stepF 2166136261 g) ((l.length : Int) / 256 % 256)) ((l.length : Int) % 256))
set_option maxHeartbeats 1000000 in
theorem step_calls (c h : Int) (b : Nat) (w : World) (hh : w.heap[b]? = some (.cells #[.int .u32 h] 24 (0, 0))) :
    Calls Try.prog 22 #[.int .u8 c, .pointer (some ⟨b, 0, none⟩)] w fun e w' => e = .returned (.tuple #[]) ∧ w' = w.setCell ⟨b, 0, none⟩ (.int .u32 (stepF h c)) := by
  have hz : w.cell? ⟨b, 0, none⟩ = some (.int .u32 h) := (blk_cell hh 0).trans rfl
  have hf := blk_frozen hh 0
  go_enter Try.func22, Try.ntmps22
  go_wp2
  go_end0
  exact ⟨rfl, rfl⟩
/-- What nvram.Sum answers. -/
def nvram_Sum.f (g : Int) (l : List Int) : Option Int := some (sumF g l)
set_option maxHeartbeats 4000000 in
set_option maxRecDepth 100000 in
theorem nvram_Sum.calls (g : Int) (A1 : Option Addr) (c1 : Nat) (l1 : List Int) (r : Int) (w : World) (hr1 : Kd.C (Kd.int .u8) w A1 l1.length l1) (hc1 : l1.length ≤ c1) (h : nvram_Sum.f g l1 = some r) :
    Calls Try.prog 11 #[.int .u8 g, .slice A1 l1.length c1] w fun e w' => e = .returned (.int .u32 r) ∧ Below w.heap.size w w' := by
  obtain rfl := Option.some.inj h
  obtain ⟨h0, hh0⟩ : ∃ h0, h0 = stepF (stepF (stepF 2166136261 g) ((l1.length : Int) / 256 % 256)) ((l1.length : Int) % 256) := ⟨_, rfl⟩
  have HH0 := Aside0.mk hh0
  have HR1 := Aside0.mk hr1
  have HC1 := Aside0.mk hc1
  clear hr1 hc1 h hh0
  go_enter Try.func11, Try.ntmps11
  go_wp2_with (first
    | ((with_reducible refine gate_dst (N := 5) rfl ?_); refine box_event ?hg (N := 5) ?hd (cs := #[.int .u32 0]) (t := 24) ?hr ?_; (case hd => rfl); (case hg => rfl); (case hr => first | (go_simp; done) | (go_simp; rfl)); intro gb hg w1 hbox hb; have BK := Aside0.mk hbox; have HB := Aside0.mk hb; have GB := Aside0.mk (show w.heap.size ≤ gb from hg ▸ Nat.le_refl _); clear hbox hb hg; have hz := (blk_cell BK.out 0).trans rfl; have hf := blk_frozen BK.out 0)
    | (go_at_call 22; refine (step_calls _ _ gb _ (blk_put BK.out 0 _ rfl)).mono ?_; rintro e w2 ⟨rfl, he⟩; have BL := Aside0.mk (show w2.heap[gb]? = _ from he ▸ blk_put (blk_put BK.out 0 _ rfl) 0 _ rfl); have HB2 := Aside0.mk (show Below w.heap.size w w2 from he ▸ below_set (below_set HB.out GB.out) GB.out); clear he BK HB hz hf; have HB := HB2; clear HB2)
    | (go_at_call 22; refine (step_calls _ _ gb _ BL.out).mono ?_; rintro e w2 ⟨rfl, he⟩; have BM := Aside0.mk (show w2.heap[gb]? = _ from he ▸ blk_put BL.out 0 _ rfl); have HB2 := Aside0.mk (show Below w.heap.size w w2 from he ▸ below_set HB.out GB.out); clear he BL HB; have HB := HB2; have BL := BM; clear HB2 BM))
  rw [← HH0.out] at BL
  go_loopg [26] l1.length (fun kq v26 w' => ∃ i : Int, v26 = .int .i64 i ∧ Aside0 (0 ≤ i ∧ i + kq = l1.length) ∧ Aside0 (w'.heap[gb]? = some (.cells #[.int .u32 ((l1.take i.toNat).foldl stepF h0)] 24 (0, 0))) ∧ Aside0 (Below w.heap.size w w'))
  case atStart => exact ⟨0, rfl, ⟨by omega, by omega⟩, ⟨by simpa using BL.out⟩, HB⟩
  case round =>
    clear BL HB
    obtain ⟨i, rfl, HI, BL, HB⟩ := hrel
    cases gk with
    | zero =>
      have hlt : decide (i < (l1.length : Int)) = false := decide_eq_false (by have := HI.out; omega)
      have hbl := BL.out
      rw [List.take_of_length_le (by have := HI.out; omega)] at hbl
      have hz := (blk_cell hbl 0).trans rfl
      go_wp2
      go_ret
      exact ⟨by rw [show sumF g l1 = l1.foldl stepF h0 from by unfold sumF; rw [← HH0.out]]; rfl, HB.out⟩
    | succ k1 =>
      have hi := HI.out
      have hlt : decide (i < (l1.length : Int)) = true := decide_eq_true (by omega)
      have hm := Kd.C_max HR1.out
      have hwr : IntKind.i64.wrap (i + 1) = i + 1 := (i64_w _).trans (by unfold wrap64; omega)
      obtain ⟨ad, ea, hx0⟩ := Kd.at_int (Kd.C_below HR1.out HB.out) i (by omega) (by omega)
      cases ea
      have p1 : (0 ≤ i) = True := eq_true (by omega)
      have p2 : (i < (l1.length : Int)) = True := eq_true (by omega)
      have hst : stepF ((l1.take i.toNat).foldl stepF h0) (rd l1 i) = (l1.take (i + 1).toNat).foldl stepF h0 := by
        rw [show (i + 1).toNat = i.toNat + 1 by omega, List.take_succ_eq_append_getElem (show i.toNat < l1.length by omega), List.foldl_append]
        simp [rd, List.getD_eq_getElem?_getD, List.getElem?_eq_getElem (show i.toNat < l1.length by omega)]
      have HST := Aside0.mk hst
      clear hi hm hst
      go_wp2_with (first
        | (go_at_call 22; refine (step_calls _ _ gb _ BL.out).mono ?_; rintro e w2 ⟨rfl, he⟩; have BM := Aside0.mk (show w2.heap[gb]? = _ from he ▸ blk_put BL.out 0 _ rfl); have HB2 := Aside0.mk (show Below w.heap.size w w2 from he ▸ below_set HB.out GB.out); clear he hx0))
      rw [HST.out] at BM
      go_roundg k1
      case measure => omega
      case rel => exact ⟨i + 1, rfl, ⟨by have := HI.out; omega, by have := HI.out; omega⟩, BM, HB2⟩
theorem wrap_u32 (n : Int) : IntKind.u32.wrap n = n % 4294967296 := by simp [IntKind.wrap, IntKind.bits, IntKind.signed]
theorem bits_xor_u32_nat (a b : Nat) (ha : a < 4294967296) (hb : b < 4294967296) : bits BinOp.xor IntKind.u32 (a : Int) (b : Int) = ((a ^^^ b : Nat) : Int) := by
  have hx : a ^^^ b < 2 ^ 32 := Nat.xor_lt_two_pow (by omega) (by omega)
  have h1 : (BitVec.ofInt 32 (a : Int)).toNat = a := by
    rw [BitVec.ofInt_natCast, BitVec.toNat_ofNat]; exact Nat.mod_eq_of_lt (by omega)
  have h2 : (BitVec.ofInt 32 (b : Int)).toNat = b := by
    rw [BitVec.ofInt_natCast, BitVec.toNat_ofNat]; exact Nat.mod_eq_of_lt (by omega)
  show IntKind.u32.wrap ((BitVec.ofInt 32 (a : Int) ^^^ BitVec.ofInt 32 (b : Int)).toNat : Int) = _
  rw [BitVec.toNat_xor, h1, h2, wrap_u32]
  omega
theorem wrap_u64_id (x : Int) (h1 : 0 ≤ x) (h2 : x < 18446744073709551616) : IntKind.u64.wrap x = x := by
  rw [IntKind.wrap_u64]; omega
theorem xor_low (h c : Nat) (hc : c < 256) : h ^^^ c = h - h % 256 + ((h % 256) ^^^ c) := by
  have hx : (h % 256) ^^^ c < 2 ^ 8 := Nat.xor_lt_two_pow (by omega) (by omega)
  have e : h - h % 256 = 2 ^ 8 * (h / 256) := by omega
  rw [e]
  apply Nat.eq_of_testBit_eq
  intro j
  rw [Nat.testBit_two_pow_mul_add _ hx, Nat.testBit_xor]
  have e2 : h = 2 ^ 8 * (h / 256) + h % 256 := by omega
  have e3 : h.testBit j = if j < 8 then (h % 256).testBit j else (h / 256).testBit (j - 8) := by
    conv => lhs; rw [e2]
    exact Nat.testBit_two_pow_mul_add _ (by omega) _
  rw [e3]
  split
  · rw [Nat.testBit_xor]
  · rw [Nat.testBit_lt_two_pow (show c < 2 ^ j from Nat.lt_of_lt_of_le (show c < 2 ^ 8 by omega) (Nat.pow_le_pow_right (by decide) (by omega)))]
    simp
theorem stepF_range (h c : Int) : 0 ≤ stepF h c ∧ stepF h c < 4294967296 := by unfold stepF; omega
theorem step_ref (h c : Int) (h0 : 0 ≤ h ∧ h < 4294967296) (hc : 0 ≤ c ∧ c < 256) : Int.tmod (IntKind.u64.wrap ((IntKind.u64.wrap ((IntKind.u64.wrap (h - (Int.tmod h 256))) + (Go.bits .xor .u64 (Int.tmod h 256) (IntKind.u64.wrap c)))) * 16777619)) 4294967296 = stepF h c := by
  obtain ⟨a, rfl⟩ := Int.eq_ofNat_of_zero_le h0.1
  obtain ⟨b, rfl⟩ := Int.eq_ofNat_of_zero_le hc.1
  have e1 : Int.tmod (a : Int) 256 = ((a % 256 : Nat) : Int) := by rw [Int.tmod_eq_emod_of_nonneg (by omega)]; omega
  obtain ⟨x, hx⟩ : ∃ x, x = (a % 256) ^^^ b := ⟨_, rfl⟩
  have hx2 : x < 2 ^ 8 := by rw [hx]; exact Nat.xor_lt_two_pow (by omega) (by omega)
  have h1 : IntKind.u64.wrap ((a : Int) - ((a % 256 : Nat) : Int)) = ((a - a % 256 : Nat) : Int) := by rw [wrap_u64_id _ (by omega) (by omega)]; omega
  have h2 : IntKind.u64.wrap (b : Int) = (b : Int) := wrap_u64_id _ (by omega) (by omega)
  have h3 : IntKind.u64.wrap (((a - a % 256 : Nat) : Int) + (x : Int)) = ((a - a % 256 + x : Nat) : Int) := by rw [wrap_u64_id _ (by omega) (by omega)]; omega
  have h4 : IntKind.u64.wrap (((a - a % 256 + x : Nat) : Int) * 16777619) = ((a - a % 256 + x : Nat) : Int) * 16777619 := wrap_u64_id _ (by omega) (by omega)
  rw [e1, h1, h2, bits_xor_u64_nat _ _ (by omega) (by omega), ← hx, h3, h4, Int.tmod_eq_emod_of_nonneg (by omega)]
  unfold stepF
  have e2 : (b : Int) % 4294967296 = (b : Int) := by omega
  rw [e2, bits_xor_u32_nat _ _ (by omega) (by omega), xor_low a b (by omega), ← hx]
theorem ref_go (l : List Int) (hl : l.length ≤ 1000000000000000) (hr : ∀ a ∈ l, 0 ≤ a ∧ a < 256) (d : Nat) : ∀ (k : Nat) (h i : Int), 0 ≤ i → i + d = l.length → d < k → 0 ≤ h ∧ h < 4294967296 → tinderref18_Sum.l0 k l h i = some ((l.drop i.toNat).foldl stepF h) := by
  induction d with
  | zero =>
    intro k h i h0 h1 hk hh
    obtain ⟨k, rfl⟩ : ∃ m, k = m + 1 := ⟨k - 1, by omega⟩
    simp only [tinderref18_Sum.l0]
    rw [if_neg (by omega), List.drop_eq_nil_of_le (by omega)]
    simp only [List.foldl_nil, Option.some.injEq]
    omega
  | succ d ih =>
    intro k h i h0 h1 hk hh
    obtain ⟨k, rfl⟩ : ∃ m, k = m + 1 := ⟨k - 1, by omega⟩
    have hil : i.toNat < l.length := by omega
    have hrd : rd l i = l[i.toNat] := by simp [rd, List.getD_eq_getElem?_getD, List.getElem?_eq_getElem hil]
    have e1 : wrap64 (i + 1) = i + 1 := by unfold wrap64; omega
    simp only [tinderref18_Sum.l0]
    rw [if_pos (by omega), if_pos h0, hrd, step_ref h _ hh (hr _ (List.getElem_mem hil)), e1, ih k _ (i + 1) (by omega) (by omega) (by omega) (stepF_range _ _), List.drop_eq_getElem_cons hil, List.foldl_cons, show (i + 1).toNat = i.toNat + 1 by omega]
theorem ref18_Sum_eq (k : Nat) (g : Int) (l : List Int) (hg : 0 ≤ g ∧ g < 256) (hr : ∀ a ∈ l, 0 ≤ a ∧ a < 256) (hl : l.length ≤ 140737488351232) (hk : l.length + 3 < k) : tinderref18_Sum.f k g l = some (sumF g l) := by
  unfold tinderref18_Sum.f
  have e1 : Int.tmod (IntKind.u64.wrap (Int.tdiv (IntKind.u64.wrap ((l.length : Int))) 256)) 256 % 256 = (l.length : Int) / 256 % 256 := by
    rw [wrap_u64_id (l.length : Int) (by omega) (by omega), Int.tdiv_eq_ediv_of_nonneg (by omega), wrap_u64_id _ (by omega) (by omega), Int.tmod_eq_emod_of_nonneg (by omega)]
    omega
  have e2 : (Int.tmod (IntKind.u64.wrap ((l.length : Int))) 256) % 256 = (l.length : Int) % 256 := by
    rw [wrap_u64_id (l.length : Int) (by omega) (by omega), Int.tmod_eq_emod_of_nonneg (by omega)]
    omega
  rw [e1, e2, Option.bind_some, if_pos (by simp; omega)]
  rw [ref_go _ (by simp; omega) (fun a ha => ?_) (l.length + 3) k _ 0 (by omega) (by simp; omega) hk (by decide)]
  · simp only [Int.toNat_zero, List.drop_zero, List.cons_append, List.nil_append, List.foldl_cons, sumF]
  · simp only [List.cons_append, List.nil_append, List.mem_cons] at ha
    rcases ha with rfl | rfl | rfl | ha
    · exact hg
    · omega
    · omega
    · exact hr a ha
end Go.Proofs.Ytlpagilpbdiniaa.Q
