/- The label's plain law. -/
import Derived.Test.YtnbomjfpnpmllaaHParse
set_option linter.unusedSimpArgs false
set_option linter.unusedVariables false
namespace Go.Proofs.Ytnbomjfpnpmllaa.Q
open Go.RowKit Go.Proofs.YtnbomjfpnpmllaaW.PrintWords Go.Proofs.YtnbomjfpnpmllaaW.PrintLast Go.Proofs.YtnbomjfpnpmllaaW.PrintMore
def IsB (a : Int) : Prop := 0 ≤ a ∧ a < 256
def Bytes (l : List Int) : Prop := ∀ a ∈ l, 0 ≤ a ∧ a < 256
theorem wrap_u8 (n : Int) : IntKind.u8.wrap n = n % 256 := by simp [IntKind.wrap, IntKind.bits, IntKind.signed]
theorem wrap_u32 (n : Int) : IntKind.u32.wrap n = n % 4294967296 := by simp [IntKind.wrap, IntKind.bits, IntKind.signed]
theorem xorB_nat (x y : Nat) (hx : x < 256) (hy : y < 256) : xorB (x : Int) (y : Int) = ((x ^^^ y : Nat) : Int) := by
  have hxy : x ^^^ y < 2 ^ 8 := Nat.xor_lt_two_pow (by omega) (by omega)
  have h1 : (BitVec.ofInt 8 (x : Int)).toNat = x := by
    rw [BitVec.ofInt_natCast, BitVec.toNat_ofNat]; exact Nat.mod_eq_of_lt (by omega)
  have h2 : (BitVec.ofInt 8 (y : Int)).toNat = y := by
    rw [BitVec.ofInt_natCast, BitVec.toNat_ofNat]; exact Nat.mod_eq_of_lt (by omega)
  show IntKind.u8.wrap ((BitVec.ofInt 8 (x : Int) ^^^ BitVec.ofInt 8 (y : Int)).toNat : Int) = _
  rw [BitVec.toNat_xor, h1, h2, wrap_u8]
  omega
theorem IsB.nat {a : Int} (h : IsB a) : ∃ x : Nat, a = x ∧ x < 256 := ⟨a.toNat, by have := h.1; omega, by have := h.1; have := h.2; omega⟩
theorem xorB_isB {a b : Int} (ha : IsB a) (hb : IsB b) : IsB (xorB a b) := by
  obtain ⟨x, rfl, hx⟩ := ha.nat
  obtain ⟨y, rfl, hy⟩ := hb.nat
  have hxy : x ^^^ y < 2 ^ 8 := Nat.xor_lt_two_pow (by omega) (by omega)
  rw [xorB_nat x y hx hy]
  exact ⟨by omega, by omega⟩
theorem xorB_self {a : Int} (ha : IsB a) : xorB a a = 0 := by
  obtain ⟨x, rfl, hx⟩ := ha.nat
  rw [xorB_nat x x hx hx, Nat.xor_self]; rfl
theorem xorB_zero {a : Int} (ha : IsB a) : xorB 0 a = a := by
  obtain ⟨x, rfl, hx⟩ := ha.nat
  have := xorB_nat 0 x (by omega) hx
  rw [Nat.zero_xor] at this
  exact this
theorem xorB_eq {a b : Int} (ha : IsB a) (hb : IsB b) (h : xorB a b = 0) : b = a := by
  obtain ⟨x, rfl, hx⟩ := ha.nat
  obtain ⟨y, rfl, hy⟩ := hb.nat
  rw [xorB_nat x y hx hy] at h
  have h3 : x ^^^ y = 0 := by omega
  have h4 : x ^^^ (x ^^^ y) = x ^^^ 0 := by rw [h3]
  rw [← Nat.xor_assoc, Nat.xor_self, Nat.zero_xor, Nat.xor_zero] at h4
  omega
theorem xorB_comm3 {c t e : Int} (hc : IsB c) (ht : IsB t) (he : IsB e) : xorB (xorB c t) e = xorB (xorB c e) t := by
  obtain ⟨x, rfl, hx⟩ := hc.nat
  obtain ⟨y, rfl, hy⟩ := ht.nat
  obtain ⟨z, rfl, hz⟩ := he.nat
  have h1 : x ^^^ y < 2 ^ 8 := Nat.xor_lt_two_pow (by omega) (by omega)
  have h2 : x ^^^ z < 2 ^ 8 := Nat.xor_lt_two_pow (by omega) (by omega)
  rw [xorB_nat x y hx hy, xorB_nat _ z (by omega) hz, xorB_nat x z hx hz, xorB_nat _ y (by omega) hy, Nat.xor_assoc, Nat.xor_assoc, Nat.xor_comm y z]
theorem xorB_assoc3 {c t e : Int} (hc : IsB c) (ht : IsB t) (he : IsB e) : xorB c (xorB e t) = xorB (xorB c e) t := by
  obtain ⟨x, rfl, hx⟩ := hc.nat
  obtain ⟨y, rfl, hy⟩ := ht.nat
  obtain ⟨z, rfl, hz⟩ := he.nat
  have h1 : z ^^^ y < 2 ^ 8 := Nat.xor_lt_two_pow (by omega) (by omega)
  have h2 : x ^^^ z < 2 ^ 8 := Nat.xor_lt_two_pow (by omega) (by omega)
  rw [xorB_nat z y hz hy, xorB_nat x _ hx (by omega), xorB_nat x z hx hz, xorB_nat _ y (by omega) hy, Nat.xor_assoc]
theorem getD_isB {l : List Int} (h : Bytes l) (i : Nat) : IsB (l.getD i 0) := by
  rw [List.getD_eq_getElem?_getD]
  cases hi : l[i]? with
  | none => exact ⟨by decide, by decide⟩
  | some a => exact h a (List.mem_of_getElem? hi)
theorem crossAt_isB {l : List Int} (h : Bytes l) : ∀ i, IsB (crossAt l i).1 ∧ IsB (crossAt l i).2
  | 0 => ⟨⟨Int.le_refl 0, (by decide : (0 : Int) < 256)⟩, ⟨Int.le_refl 0, (by decide : (0 : Int) < 256)⟩⟩
  | i + 1 => by
    have ih := crossAt_isB h i
    have hg := getD_isB h i
    rw [crossAt]
    split
    · exact ⟨xorB_isB ih.1 hg, ih.2⟩
    · exact ⟨ih.1, xorB_isB ih.2 hg⟩
theorem crossAt_left (Y Z : List Int) : ∀ i, i ≤ Y.length → crossAt (Y ++ Z) i = crossAt Y i
  | 0, _ => rfl
  | i + 1, h => by
    have ih := crossAt_left Y Z i (by omega)
    have hg : (Y ++ Z).getD i 0 = Y.getD i 0 := by rw [List.getD_eq_getElem?_getD, List.getElem?_append_left (by omega), ← List.getD_eq_getElem?_getD]
    rw [crossAt, crossAt, ih, hg]
theorem cross_snoc (Y : List Int) (x y : Int) (hl : Y.length = 510) : crossF (Y ++ [x, y]) = (xorB (crossF Y).1 x, xorB (crossF Y).2 y) := by
  unfold crossF
  have e : (Y ++ [x, y]).length = 510 + 1 + 1 := by rw [List.length_append, hl]; rfl
  have g1 : (Y ++ [x, y]).getD 510 0 = x := by rw [List.getD_eq_getElem?_getD, List.getElem?_append_right (by omega), hl]; rfl
  have g2 : (Y ++ [x, y]).getD (510 + 1) 0 = y := by rw [List.getD_eq_getElem?_getD, List.getElem?_append_right (by omega), hl]; rfl
  rw [e, cross_odd _ (510 + 1) (by decide), cross_even _ 510 (by decide), g1, g2, crossAt_left Y _ 510 (by omega), hl]
/-! numbers -/
def val4 (a b c d : Int) : Int := a * 16777216 + b * 65536 + c * 256 + d
theorem or_nat (a b : Nat) (ha : a < 4294967296) (hb : b < 4294967296) : bits BinOp.or IntKind.u32 (a : Int) (b : Int) = ((a ||| b : Nat) : Int) := by
  have hx : a ||| b < 2 ^ 32 := Nat.or_lt_two_pow (by omega) (by omega)
  have h1 : (BitVec.ofInt 32 (a : Int)).toNat = a := by
    rw [BitVec.ofInt_natCast, BitVec.toNat_ofNat]; exact Nat.mod_eq_of_lt (by omega)
  have h2 : (BitVec.ofInt 32 (b : Int)).toNat = b := by
    rw [BitVec.ofInt_natCast, BitVec.toNat_ofNat]; exact Nat.mod_eq_of_lt (by omega)
  show IntKind.u32.wrap ((BitVec.ofInt 32 (a : Int) ||| BitVec.ofInt 32 (b : Int)).toNat : Int) = _
  rw [BitVec.toNat_or, h1, h2, wrap_u32]
  omega
theorem or4 (a b c d : Int) (ha : IsB a) (hb : IsB b) (hc : IsB c) (hd : IsB d) : bits .or .u32 (bits .or .u32 (bits .or .u32 (((a % 4294967296) * 16777216) % 4294967296) (((b % 4294967296) * 65536) % 4294967296)) (((c % 4294967296) * 256) % 4294967296)) (d % 4294967296) = val4 a b c d := by
  obtain ⟨x, rfl, hx⟩ := ha.nat
  obtain ⟨y, rfl, hy⟩ := hb.nat
  obtain ⟨z, rfl, hz⟩ := hc.nat
  obtain ⟨t, rfl, ht⟩ := hd.nat
  have e1 : (((x : Int) % 4294967296) * 16777216) % 4294967296 = ((16777216 * x : Nat) : Int) := by omega
  have e2 : (((y : Int) % 4294967296) * 65536) % 4294967296 = ((65536 * y : Nat) : Int) := by omega
  have e3 : (((z : Int) % 4294967296) * 256) % 4294967296 = ((256 * z : Nat) : Int) := by omega
  have e4 : (t : Int) % 4294967296 = ((t : Nat) : Int) := by omega
  rw [e1, e2, e3, e4, or_nat _ _ (by omega) (by omega)]
  have f1 : 16777216 * x ||| 65536 * y = 65536 * (256 * x + y) := by
    rw [show 16777216 * x = 2 ^ 24 * x by rfl, ← Nat.two_pow_add_eq_or_of_lt (show 65536 * y < 2 ^ 24 by omega)]
    omega
  rw [f1, or_nat _ _ (by omega) (by omega)]
  have f2 : 65536 * (256 * x + y) ||| 256 * z = 256 * (65536 * x + 256 * y + z) := by
    rw [show 65536 * (256 * x + y) = 2 ^ 16 * (256 * x + y) by rfl, ← Nat.two_pow_add_eq_or_of_lt (show 256 * z < 2 ^ 16 by omega)]
    omega
  rw [f2, or_nat _ _ (by omega) (by omega), show 256 * (65536 * x + 256 * y + z) = 2 ^ 8 * (65536 * x + 256 * y + z) by rfl, ← Nat.two_pow_add_eq_or_of_lt (show t < 2 ^ 8 by omega)]
  unfold val4
  omega
theorem rd_isB {l : List Int} (h : Bytes l) (i : Int) : IsB (rd l i) := getD_isB h i.toNat
theorem numF_eq (l : List Int) (h : Bytes l) : numF l = val4 (rd l 0) (rd l 1) (rd l 2) (rd l 3) := or4 _ _ _ _ (rd_isB h _) (rd_isB h _) (rd_isB h _) (rd_isB h _)
theorem numB_eq (l : List Int) (h : Bytes l) : numB l = val4 (rd l 0) (rd l 1) (rd l 2) (rd l 3) := by
  have h0 := rd_isB h 0
  have h1 := rd_isB h 1
  have h2 := rd_isB h 2
  have h3 := rd_isB h 3
  have s1 : decAt l 1 = rd l 0 := by
    show (0 * 256 % 4294967296 + rd l 0 % 4294967296) % 4294967296 = _
    have := h0.1; have := h0.2; omega
  have s2 : decAt l 2 = rd l 0 * 256 + rd l 1 := by
    show (decAt l 1 * 256 % 4294967296 + rd l 1 % 4294967296) % 4294967296 = _
    rw [s1]
    have := h0.1; have := h0.2; have := h1.1; have := h1.2; omega
  have s3 : decAt l 3 = rd l 0 * 65536 + rd l 1 * 256 + rd l 2 := by
    show (decAt l 2 * 256 % 4294967296 + rd l 2 % 4294967296) % 4294967296 = _
    rw [s2]
    have := h0.1; have := h0.2; have := h1.1; have := h1.2; have := h2.1; have := h2.2; omega
  show (decAt l 3 * 256 % 4294967296 + rd l 3 % 4294967296) % 4294967296 = _
  rw [s3]
  unfold val4
  have := h0.1; have := h0.2; have := h1.1; have := h1.2; have := h2.1; have := h2.2; have := h3.1; have := h3.2; omega
theorem four_val (a b c d : Int) (ha : IsB a) (hb : IsB b) (hc : IsB c) (hd : IsB d) : fourF (val4 a b c d) = [a, b, c, d] := by
  obtain ⟨a0, a1⟩ := ha
  obtain ⟨b0, b1⟩ := hb
  obtain ⟨c0, c1⟩ := hc
  obtain ⟨d0, d1⟩ := hd
  unfold fourF val4
  rw [show (a * 16777216 + b * 65536 + c * 256 + d) / 16777216 % 256 = a by omega, show (a * 16777216 + b * 65536 + c * 256 + d) / 65536 % 256 = b by omega, show (a * 16777216 + b * 65536 + c * 256 + d) / 256 % 256 = c by omega, show (a * 16777216 + b * 65536 + c * 256 + d) % 256 = d by omega]
theorem val_four (a : Int) (h : 0 ≤ a ∧ a < 4294967296) : val4 (a / 16777216 % 256) (a / 65536 % 256) (a / 256 % 256) (a % 256) = a := by
  unfold val4; omega
theorem fourF_bytes (a : Int) : Bytes (fourF a) := fun x hx => by
  simp only [fourF, List.mem_cons, List.not_mem_nil, or_false] at hx
  rcases hx with rfl | rfl | rfl | rfl <;> omega
theorem numF_four (a : Int) (h : 0 ≤ a ∧ a < 4294967296) : numF (fourF a) = a := by
  rw [numF_eq _ (fourF_bytes a)]
  exact val_four a h
theorem Bytes.drop {l : List Int} (h : Bytes l) (n : Nat) : Bytes (l.drop n) := fun a ha => h a (List.mem_of_mem_drop ha)
theorem Bytes.take {l : List Int} (h : Bytes l) (n : Nat) : Bytes (l.take n) := fun a ha => h a (List.mem_of_mem_take ha)
theorem Bytes.append {l m : List Int} (h : Bytes l) (k : Bytes m) : Bytes (l ++ m) := fun a ha => (List.mem_append.1 ha).elim (h a) (k a)
theorem four_numB (l : List Int) (h : Bytes l) (hl : 4 ≤ l.length) : fourF (numB l) = l.take 4 := by
  rw [numB_eq l h, four_val _ _ _ _ (rd_isB h 0) (rd_isB h 1) (rd_isB h 2) (rd_isB h 3)]
  match l, hl with
  | a :: b :: c :: d :: _, _ => rfl
/-! the label's pieces -/
theorem headF_bytes (ps : List Part) : Bytes (headF ps) := fun x hx => by
  obtain ⟨p, _, hp⟩ := List.mem_flatMap.1 hx
  exact (List.mem_append.1 hp).elim (fourF_bytes _ x) (fourF_bytes _ x)
theorem zerosL_len (n : Nat) : (zerosL n).length = n := List.length_replicate
theorem zerosL_bytes (n : Nat) : Bytes (zerosL n) := fun x hx => by
  have := List.eq_of_mem_replicate hx
  omega
theorem bodyF_bytes (ps : List Part) : Bytes (bodyF ps) := ((headF_bytes ps).append (zerosL_bytes _)).append (fun x hx => by
  simp only [List.mem_cons, List.not_mem_nil, or_false] at hx
  rcases hx with rfl | rfl <;> omega)
theorem labelF_bytes (ps : List Part) : Bytes (labelF ps) := (bodyF_bytes ps).append (fun x hx => by
  have h := crossAt_isB (bodyF_bytes ps) (bodyF ps).length
  simp only [List.mem_cons, List.not_mem_nil, or_false] at hx
  rcases hx with rfl | rfl
  · exact h.1
  · exact h.2)
theorem bodyF_eq (ps : List Part) (hl : ps.length = 8) : bodyF ps = headF ps ++ zerosL 444 ++ [218, 190] := by unfold bodyF; rw [headF_len, hl]
theorem bodyF_len (ps : List Part) (hl : ps.length = 8) : (bodyF ps).length = 510 := by
  rw [bodyF_eq ps hl, List.length_append, List.length_append, headF_len, hl, zerosL_len]; rfl
theorem labelF_len (ps : List Part) (hl : ps.length = 8) : (labelF ps).length = 512 := by
  unfold labelF; rw [List.length_append, bodyF_len ps hl]; rfl
theorem labelF_cross (ps : List Part) (hl : ps.length = 8) : crossF (labelF ps) = (0, 0) := by
  have h := crossAt_isB (bodyF_bytes ps) (bodyF ps).length
  unfold labelF
  rw [cross_snoc _ _ _ (bodyF_len ps hl)]
  exact Prod.ext (xorB_self h.1) (xorB_self h.2)
theorem labelF_split (ps : List Part) (hl : ps.length = 8) : labelF ps = headF ps ++ (zerosL 444 ++ ([218, 190] ++ [(crossF (bodyF ps)).1, (crossF (bodyF ps)).2])) := by
  unfold labelF
  conv => lhs; arg 1; rw [bodyF_eq ps hl]
  simp only [List.append_assoc]
theorem anyNZ_zeros (n : Nat) : anyNZ (zerosL n) = false := by simp [anyNZ, zerosL]
theorem labelF_good (ps : List Part) (hl : ps.length = 8) : goodF (labelF ps) = true := by
  have hh : (headF ps).length = 64 := by rw [headF_len, hl]
  have hz : (zerosL 444).length = 444 := zerosL_len 444
  unfold goodF
  rw [labelF_cross ps hl]
  rw [labelF_split ps hl]
  generalize (crossF (bodyF ps)).1 = x
  generalize (crossF (bodyF ps)).2 = y
  have r1 : rd (headF ps ++ (zerosL 444 ++ ([218, 190] ++ [x, y]))) 508 = 218 := by
    unfold rd
    rw [List.getD_eq_getElem?_getD, List.getElem?_append_right (by rw [hh]; decide), hh, List.getElem?_append_right (by rw [hz]; decide), hz]
    rfl
  have r2 : rd (headF ps ++ (zerosL 444 ++ ([218, 190] ++ [x, y]))) 509 = 190 := by
    unfold rd
    rw [List.getD_eq_getElem?_getD, List.getElem?_append_right (by rw [hh]; decide), hh, List.getElem?_append_right (by rw [hz]; decide), hz]
    rfl
  rw [r1, r2, List.drop_left' hh, List.take_left' hz, anyNZ_zeros]
  rfl
theorem headF_four (ps : List Part) : ∀ i, i < ps.length → fourAt (headF ps) (2 * i) = fourF (ps.getD i (0, 0)).1 ∧ fourAt (headF ps) (2 * i + 1) = fourF (ps.getD i (0, 0)).2 := by
  induction ps with
  | nil => intro i hi; simp at hi
  | cons p ps ih =>
    intro i hi
    have e : headF (p :: ps) = fourF p.1 ++ (fourF p.2 ++ headF ps) := by simp [headF]
    cases i with
    | zero =>
      rw [e]
      exact ⟨rfl, rfl⟩
    | succ i =>
      have h := ih i (by simpa using hi)
      unfold fourAt at h ⊢
      rw [e, show 4 * (2 * (i + 1)) = 4 * (2 * i) + 4 + 4 by omega, show 4 * (2 * (i + 1) + 1) = 4 * (2 * i + 1) + 4 + 4 by omega]
      exact h
theorem partsN_of (l : List Int) (h : l.length = 512) (i : Nat) (hi : i < 8) : partN (allNums (l.take 64)) i = (numF (fourAt (l.take 64) (2 * i)), numF (fourAt (l.take 64) (2 * i + 1))) := by
  have hN : ∀ m : Nat, m < 16 → rd (allNums (l.take 64)) (m : Int) = numF (fourAt (l.take 64) m) := fun m hm => by
    unfold rd allNums
    rw [Int.toNat_natCast, List.getD_eq_getElem?_getD, List.getElem?_map, List.getElem?_range (by rw [List.length_take, h]; omega)]
    rfl
  unfold partN
  rw [show (2 * (i : Int)) = ((2 * i : Nat) : Int) by omega, show ((2 * i : Nat) : Int) + 1 = ((2 * i + 1 : Nat) : Int) by omega, hN _ (by omega), hN _ (by omega)]
theorem labelF_parts (ps : List Part) (hl : ps.length = 8) (hr : Parts ps) : partsN (labelF ps) = ps := by
  have hh : (headF ps).length = 64 := by rw [headF_len, hl]
  unfold partsN
  apply List.ext_getElem?
  intro i
  by_cases hi : i < 8
  · have hg := hr.at_ i (by omega)
    have h4 := headF_four ps i (by omega)
    rw [List.getElem?_map, List.getElem?_range hi]
    show some (partN _ i) = _
    rw [partsN_of _ (labelF_len ps hl) i hi, labelF_split ps hl, List.take_left' hh, h4.1, h4.2, numF_four _ hg.1, numF_four _ hg.2, List.getD_eq_getElem?_getD, List.getElem?_eq_getElem (by omega)]
    rfl
  · rw [List.getElem?_eq_none (by simp; omega), List.getElem?_eq_none (by omega)]
theorem parse_label (ps : List Part) (hl : ps.length = 8) (hr : Parts ps) : parseF (labelF ps) = (ps, 0) := by
  unfold parseF
  rw [if_pos (labelF_len ps hl), if_pos (labelF_good ps hl), labelF_parts ps hl hr]
end Go.Proofs.Ytnbomjfpnpmllaa.Q
