/- Digits, and texts as numbers: the two plain functions are one. -/
import Derived.Lib.Strings
import Derived.Test.YthlpdjnfcjpbpaaDoorQDigitLiteral
import Derived.Test.YthlpdjnfcjpbpaaDoorQTinderref02Literal
namespace Go.Proofs.YthlpdjnfcjpbpaaDoor.Q
open Go.RowKit Go.Proofs.YthlpdjnfcjpbpaaDoorW.PrintWords Go.Proofs.YthlpdjnfcjpbpaaDoorW.PrintLast
/-- The place of a byte among all digits; 255: none. -/
def numF (c : Int) : Int := if 48 ≤ c ∧ c ≤ 57 then c - 48 else if 97 ≤ c ∧ c ≤ 122 then c - 87 else if 65 ≤ c ∧ c ≤ 90 then c - 55 else 255
def valF (c b : Int) : Int × Bool := if 2 ≤ b ∧ b ≤ 36 ∧ numF c < b then (numF c, true) else (0, false)
theorem numF_range (c : Int) : 0 ≤ numF c ∧ numF c ≤ 255 := by unfold numF; split; omega; split; omega; split <;> omega
theorem fit_eq (b : Int) : digit_fit.f b = some (decide (2 ≤ b ∧ b ≤ 36)) := by
  unfold digit_fit.f
  by_cases h1 : b ≥ 2
  · rw [if_pos h1, Option.some.injEq, decide_eq_decide]
    omega
  · rw [if_neg h1, Option.some.injEq, eq_comm, decide_eq_false_iff_not]
    omega
theorem value_end (b v : Int) : ((digit_fit.f b).bind fun t => (if t = true then (if v ≥ b then some ((0 : Int), false) else some (v, true)) else some (0, false))) = some (if 2 ≤ b ∧ b ≤ 36 ∧ v < b then (v, true) else (0, false)) := by
  rw [fit_eq, Option.bind_some]
  by_cases h : 2 ≤ b ∧ b ≤ 36
  · rw [if_pos (by simpa using h)]
    by_cases h2 : v ≥ b
    · rw [if_pos h2, if_neg (by omega)]
    · rw [if_neg h2, if_pos (by omega)]
  · rw [if_neg (by simpa using h), if_neg (by omega)]
theorem digit_Value_eq (k : Nat) (c b : Int) (hc : 0 ≤ c ∧ c < 256) : digit_Value.f (k + 3) c b = some (valF c b) := by
  have hj2 : ∀ k, digit_Value.j2 (k + 1) c b 255 (decide (65 ≤ c ∧ c ≤ 90)) = some (if 2 ≤ b ∧ b ≤ 36 ∧ (if 65 ≤ c ∧ c ≤ 90 then c - 55 else 255) < b then (if 65 ≤ c ∧ c ≤ 90 then c - 55 else 255, true) else (0, false)) := by
    intro k
    rw [digit_Value.j2]
    by_cases h : 65 ≤ c ∧ c ≤ 90
    · rw [if_pos (by simpa using h), if_pos h, show (c - 65) % 256 + 10 = c - 55 by omega]
      exact value_end b (c - 55)
    · rw [if_neg (by simpa using h), if_neg h]
      exact value_end b 255
  have hj1 : ∀ k, digit_Value.j1 (k + 2) c b 255 (decide (97 ≤ c ∧ c ≤ 122)) = some (if 2 ≤ b ∧ b ≤ 36 ∧ (if 97 ≤ c ∧ c ≤ 122 then c - 87 else if 65 ≤ c ∧ c ≤ 90 then c - 55 else 255) < b then (if 97 ≤ c ∧ c ≤ 122 then c - 87 else if 65 ≤ c ∧ c ≤ 90 then c - 55 else 255, true) else (0, false)) := by
    intro k
    rw [digit_Value.j1]
    by_cases h : 97 ≤ c ∧ c ≤ 122
    · rw [if_pos (by simpa using h), if_pos h, show (c - 97) % 256 + 10 = c - 87 by omega]
      exact value_end b (c - 87)
    · rw [if_neg (by simpa using h), if_neg h]
      by_cases h2 : c ≥ 65
      · rw [if_pos h2, ← hj2 k]
        congr 1
        simp [h2]
      · rw [if_neg h2, ← hj2 k]
        congr 1
        simp
        omega
  unfold digit_Value.f valF numF
  have hj0 : digit_Value.j0 (k + 3) c b 255 (decide (48 ≤ c ∧ c ≤ 57)) = some (if 2 ≤ b ∧ b ≤ 36 ∧ (if 48 ≤ c ∧ c ≤ 57 then c - 48 else if 97 ≤ c ∧ c ≤ 122 then c - 87 else if 65 ≤ c ∧ c ≤ 90 then c - 55 else 255) < b then (if 48 ≤ c ∧ c ≤ 57 then c - 48 else if 97 ≤ c ∧ c ≤ 122 then c - 87 else if 65 ≤ c ∧ c ≤ 90 then c - 55 else 255, true) else (0, false)) := by
    rw [digit_Value.j0]
    by_cases h : 48 ≤ c ∧ c ≤ 57
    · rw [if_pos (by simpa using h), if_pos h, show (c - 48) % 256 = c - 48 by omega]
      exact value_end b (c - 48)
    · rw [if_neg (by simpa using h), if_neg h]
      by_cases h2 : c ≥ 97
      · rw [if_pos h2, ← hj1 k]
        congr 1
        simp [h2]
      · rw [if_neg h2, ← hj1 k]
        congr 1
        simp
        omega
  by_cases h : c ≥ 48
  · rw [if_pos h, ← hj0]
    congr 1
    simp [h]
  · rw [if_neg h, ← hj0]
    congr 1
    simp
    omega
def smallF (c : Int) : Int := if 65 ≤ c ∧ c ≤ 90 then c + 32 else c
theorem small_eq (c : Int) (hc : 0 ≤ c ∧ c < 256) : tinderref02_Small.f c = some (smallF c) := by
  unfold tinderref02_Small.f smallF
  by_cases h1 : c ≥ 65
  · rw [if_pos h1]
    by_cases h2 : c ≤ 90
    · rw [if_pos h2, if_pos ⟨h1, h2⟩, show (c + 32) % 256 = c + 32 by omega]
    · rw [if_neg h2, if_neg (by omega)]
  · rw [if_neg h1, if_neg (by omega)]
def digitsB : ByteArray := ⟨#[48, 49, 50, 51, 52, 53, 54, 55, 56, 57, 97, 98, 99, 100, 101, 102, 103, 104, 105, 106, 107, 108, 109, 110, 111, 112, 113, 114, 115, 116, 117, 118, 119, 120, 121, 122]⟩
theorem digits_all : ((List.range 36).all fun (j : Nat) => bt digitsB (j : Int) == if j < 10 then (j : Int) + 48 else (j : Int) + 87) = true := by kernel_rfl
theorem digits_at (i : Int) (h : 0 ≤ i ∧ i < 36) : bt digitsB i = if i < 10 then i + 48 else i + 87 := by
  have := List.all_eq_true.1 digits_all i.toNat (List.mem_range.2 (by omega))
  rw [beq_iff_eq] at this
  rw [show ((i.toNat : Nat) : Int) = i by omega] at this
  rw [this]
  by_cases h1 : i < 10
  · rw [if_pos h1, if_pos (by omega)]
  · rw [if_neg h1, if_neg (by omega)]
theorem digit_here (c i : Int) (h : 0 ≤ i ∧ i < 36) : bt digitsB i = smallF c ↔ i = numF c := by
  rw [digits_at i h]
  unfold smallF numF
  split <;> split <;> (try split) <;> (try split) <;> omega
theorem refvalue_go (c b : Int) (hc : 0 ≤ c ∧ c < 256) (hb : 2 ≤ b ∧ b ≤ 36) (d : Nat) : ∀ (k : Nat) (i : Int), 0 ≤ i → i + d = b → i ≤ numF c → d < k → tinderref02_Value.l0 k c b i = some (valF c b) := by
  have hw : wrap64 b = b := by unfold wrap64; omega
  have hn := numF_range c
  induction d with
  | zero =>
    intro k i h0 h1 h2 hk
    obtain ⟨k, rfl⟩ : ∃ k', k = k' + 1 := ⟨k - 1, by omega⟩
    rw [tinderref02_Value.l0, hw, if_neg (by omega)]
    unfold valF
    rw [if_neg (by omega)]
  | succ d ih =>
    intro k i h0 h1 h2 hk
    obtain ⟨k, rfl⟩ : ∃ k', k = k' + 1 := ⟨k - 1, by omega⟩
    rw [tinderref02_Value.l0, hw, if_pos (by omega), if_pos h0, if_pos (by omega), small_eq c hc, Option.bind_some]
    have hd := digit_here c i ⟨h0, by omega⟩
    by_cases he : i = numF c
    · show (if bt digitsB i = smallF c then some (i % 4294967296, true) else tinderref02_Value.l0 k c b (wrap64 (i + 1))) = _
      rw [if_pos (hd.2 he)]
      unfold valF
      rw [if_pos (by omega), he, show numF c % 4294967296 = numF c by omega]
    · show (if bt digitsB i = smallF c then some (i % 4294967296, true) else tinderref02_Value.l0 k c b (wrap64 (i + 1))) = _
      rw [if_neg (fun h => he (hd.1 h)), show wrap64 (i + 1) = i + 1 by unfold wrap64; omega]
      exact ih k (i + 1) (by omega) (by omega) (by omega) (by omega)
theorem refvalue_eq (k : Nat) (c b : Int) (hc : 0 ≤ c ∧ c < 256) (hk : 40 ≤ k) : tinderref02_Value.f k c b = some (valF c b) := by
  obtain ⟨k, rfl⟩ : ∃ k', k = k' + 1 := ⟨k - 1, by omega⟩
  have hn := numF_range c
  unfold tinderref02_Value.f
  by_cases h1 : b < 2
  · rw [if_pos h1, tinderref02_Value.j0, if_pos rfl]
    unfold valF
    rw [if_neg (by omega)]
  · rw [if_neg h1, tinderref02_Value.j0]
    by_cases h2 : b > 36
    · rw [if_pos (by simpa using h2)]
      unfold valF
      rw [if_neg (by omega)]
    · rw [if_neg (by simpa using h2)]
      exact refvalue_go c b hc (by omega) b.toNat k 0 (by omega) (by omega) (by omega) (by omega)
/-- A text's digits as a number; the mark: it is too great; none: a byte is no digit. -/
def parL (b : Int) : List Int → Int → Bool → Option (Int × Bool)
  | [], n, g => some (n, g)
  | c :: l, n, g => if (valF c b).2 = true then (if g = true then parL b l n true else parL b l (n * b + (valF c b).1) (decide (n * b + (valF c b).1 ≥ 4294967296))) else none
def resF (neg : Bool) : Option (Int × Bool) → Int × Int
  | none => (0, 15)
  | some (n, g) => if g = true then (0, 4) else (if neg = true then ((4294967296 - n) % 4294967296, 0) else (n, 0))
theorem parL_nil (b n : Int) (g : Bool) : parL b [] n g = some (n, g) := rfl
theorem parL_cons (b c : Int) (l : List Int) (n : Int) (g : Bool) : parL b (c :: l) n g = if (valF c b).2 = true then (if g = true then parL b l n true else parL b l (n * b + (valF c b).1) (decide (n * b + (valF c b).1 ≥ 4294967296))) else none := rfl
theorem resF_t (neg : Bool) (n : Int) : resF neg (some (n, true)) = (0, 4) := rfl
theorem resF_pos (n : Int) : resF false (some (n, false)) = (n, 0) := rfl
theorem resF_neg (n : Int) : resF true (some (n, false)) = ((4294967296 - n) % 4294967296, 0) := rfl
theorem val_range (c b : Int) : 0 ≤ (valF c b).1 ∧ (valF c b).1 < 36 := by
  have := numF_range c
  unfold valF
  split
  · dsimp only; omega
  · decide
theorem bytes_at (s : ByteArray) (i : Int) (h0 : 0 ≤ i) (h1 : i < s.size) : (bytesOf s).drop i.toNat = bt s i :: (bytesOf s).drop (i + 1).toNat := by
  have hl : i.toNat < (bytesOf s).length := by rw [bytesOf_length]; omega
  rw [List.drop_eq_getElem_cons hl, show (i + 1).toNat = i.toNat + 1 by omega, ← rd_bytesOf]
  simp [rd, List.getD_eq_getElem?_getD, List.getElem?_eq_getElem hl]
theorem wrap_u64_id (n : Int) (h0 : 0 ≤ n) (h1 : n < 18446744073709551616) : IntKind.u64.wrap n = n := by rw [IntKind.wrap_u64]; omega
theorem mulb (n b v : Int) (h0 : 0 ≤ n) (h1 : n ≤ 4294967296) (hb : 2 ≤ b ∧ b ≤ 36) (hv : 0 ≤ v ∧ v < 36) : 0 ≤ n * b ∧ n * b ≤ 154618822656 ∧ IntKind.u64.wrap (IntKind.u64.wrap (n * IntKind.u64.wrap b) + IntKind.u64.wrap v) = n * b + v := by
  have e1 : n * b ≤ 4294967296 * 36 := Int.mul_le_mul h1 hb.2 (by omega) (by omega)
  have e0 : 0 ≤ n * b := Int.mul_nonneg h0 (by omega)
  refine ⟨e0, by omega, ?_⟩
  rw [wrap_u64_id b (by omega) (by omega), wrap_u64_id (n * b) e0 (by omega), wrap_u64_id v (by omega) (by omega), wrap_u64_id _ (by omega) (by omega)]
theorem parse_go (b : Int) (hb : 2 ≤ b ∧ b ≤ 36) (s : ByteArray) (neg : Bool) (hs : s.size ≤ 9223372036854775806) (d : Nat) : ∀ (k : Nat) (i n m e : Int) (g : Bool), 0 ≤ i → i + d = s.size → d + 10 < k → ((g = false ∧ e = 0 ∧ n = m ∧ 0 ≤ n ∧ n < 4294967296) ∨ (g = true ∧ e = 4 ∧ n = 4294967296)) →
    digit_Parse.l0 k b s neg n e (s.size : Int) i = some (resF neg (parL b ((bytesOf s).drop i.toNat) m g)) := by
  induction d with
  | zero =>
    intro k i n m e g h0 h1 hk hst
    obtain ⟨k, rfl⟩ : ∃ k', k = k' + 1 := ⟨k - 1, by omega⟩
    rw [digit_Parse.l0, if_neg (by omega), List.drop_eq_nil_of_le (by rw [bytesOf_length]; omega)]
    rw [parL_nil]
    rcases hst with ⟨rfl, rfl, rfl, h2, h3⟩ | ⟨rfl, rfl, rfl⟩
    · rw [if_pos rfl]
      cases neg
      · rw [if_neg Bool.false_ne_true, resF_pos, Int.emod_eq_of_lt h2 h3]
      · rw [if_pos rfl, resF_neg, IntKind.wrap_u64, Option.some.injEq, Prod.mk.injEq]
        exact ⟨by omega, rfl⟩
    · rw [if_neg (by decide), resF_t]
  | succ d ih =>
    intro k i n m e g h0 h1 hk hst
    obtain ⟨k, rfl⟩ : ∃ k', k = k' + 1 := ⟨k - 1, by omega⟩
    obtain ⟨k3, hk3⟩ : ∃ k', k = k' + 3 := ⟨k - 3, by omega⟩
    have hv := val_range (bt s i) b
    have hbt := bt_range s i
    rw [digit_Parse.l0, if_pos (by omega), if_pos h0, if_pos (by omega), hk3, digit_Value_eq k3 _ b ⟨hbt.1, by omega⟩, ← hk3, Option.bind_some, bytes_at s i h0 (by omega), show wrap64 (i + 1) = i + 1 by unfold wrap64; omega]
    rw [parL_cons]
    obtain ⟨v, hve⟩ : ∃ v, v = (valF (bt s i) b).1 := ⟨_, rfl⟩
    rw [← hve] at hv ⊢
    cases hd : (valF (bt s i) b).2
    · rw [if_neg Bool.false_ne_true, if_neg Bool.false_ne_true]
      rfl
    · rw [if_pos rfl, if_pos rfl]
      rcases hst with ⟨rfl, rfl, rfl, h2, h3⟩ | ⟨rfl, rfl, rfl⟩
      · obtain ⟨m0, m1, m2⟩ := mulb n b v h2 (by omega) hb hv
        rw [m2, if_neg Bool.false_ne_true]
        by_cases hg : n * b + v > 4294967295
        · rw [if_pos hg, decide_eq_true (show n * b + v ≥ 4294967296 by omega)]
          exact ih k (i + 1) _ _ _ _ (by omega) (by omega) (by omega) (.inr ⟨rfl, rfl, rfl⟩)
        · rw [if_neg hg, decide_eq_false (show ¬ n * b + v ≥ 4294967296 by omega)]
          exact ih k (i + 1) _ _ _ _ (by omega) (by omega) (by omega) (.inl ⟨rfl, rfl, rfl, by omega, by omega⟩)
      · obtain ⟨m0, m1, m2⟩ := mulb 4294967296 b v (by omega) (by omega) hb hv
        rw [m2, if_pos (by omega), if_pos rfl]
        exact ih k (i + 1) _ _ _ _ (by omega) (by omega) (by omega) (.inr ⟨rfl, rfl, rfl⟩)
theorem refparse_go (b : Int) (hb : 2 ≤ b ∧ b ≤ 36) (s : ByteArray) (neg : Bool) (hs : s.size ≤ 9223372036854775806) (d : Nat) : ∀ (k : Nat) (i n : Int) (g : Bool), 0 ≤ i → i + d = s.size → d + 50 < k → (g = false → 0 ≤ n ∧ n < 4294967296) →
    tinderref02_Parse.l0 k s b neg n g i = some (resF neg (parL b ((bytesOf s).drop i.toNat) n g)) := by
  induction d with
  | zero =>
    intro k i n g h0 h1 hk hst
    obtain ⟨k, rfl⟩ : ∃ k', k = k' + 1 := ⟨k - 1, by omega⟩
    rw [tinderref02_Parse.l0, if_neg (by omega), List.drop_eq_nil_of_le (by rw [bytesOf_length]; omega)]
    rw [parL_nil]
    cases g
    · obtain ⟨h2, h3⟩ := hst rfl
      rw [if_neg Bool.false_ne_true]
      cases neg
      · rw [if_neg Bool.false_ne_true, resF_pos, Int.emod_eq_of_lt h2 h3]
      · rw [if_pos rfl, resF_neg, wrap_u64_id _ (by omega) (by omega), Int.tmod_eq_emod_of_nonneg (by omega), Int.emod_emod]
    · rw [if_pos rfl, resF_t]
  | succ d ih =>
    intro k i n g h0 h1 hk hst
    obtain ⟨k, rfl⟩ : ∃ k', k = k' + 1 := ⟨k - 1, by omega⟩
    have hv := val_range (bt s i) b
    have hbt := bt_range s i
    rw [tinderref02_Parse.l0, if_pos (by omega), if_pos h0, refvalue_eq k _ b ⟨hbt.1, by omega⟩ (by omega), Option.bind_some, bytes_at s i h0 (by omega), show wrap64 (i + 1) = i + 1 by unfold wrap64; omega]
    rw [parL_cons]
    obtain ⟨v, hve⟩ : ∃ v, v = (valF (bt s i) b).1 := ⟨_, rfl⟩
    rw [← hve] at hv ⊢
    cases hd : (valF (bt s i) b).2
    · rw [if_neg Bool.false_ne_true, if_neg Bool.false_ne_true]
      rfl
    · rw [if_pos rfl, if_pos rfl]
      cases g
      · obtain ⟨h2, h3⟩ := hst rfl
        obtain ⟨m0, m1, m2⟩ := mulb n b v h2 (by omega) hb hv
        rw [m2, if_neg Bool.false_ne_true, if_neg Bool.false_ne_true]
        refine ih k (i + 1) _ _ (by omega) (by omega) (by omega) (fun h => ?_)
        have := of_decide_eq_false h
        omega
      · rw [if_pos rfl, if_pos rfl]
        exact ih k (i + 1) _ _ (by omega) (by omega) (by omega) (fun h => by cases h)
/-- A text as a number in a base. -/
def parF (s : ByteArray) (b : Int) : Int × Int :=
  if 2 ≤ b ∧ b ≤ 36 then
    (if 0 < s.size ∧ bt s 0 = 45 then (if s.size = 1 then (0, 15) else resF true (parL b (bytesOf (s.extract 1 s.size)) 0 false))
     else (if s.size = 0 then (0, 15) else resF false (parL b (bytesOf s) 0 false)))
  else (0, 1)
theorem extract_size (s : ByteArray) : (s.extract 1 s.size).size = s.size - 1 := by rw [ByteArray.size_extract]; omega
theorem minus_iff (s : ByteArray) (h : 1 ≤ s.size) : ((s.extract 0 1).toList == (⟨#[45]⟩ : ByteArray).toList) = decide (bt s 0 = 45) := by
  rw [ByteArray.toList_eq, ByteArray.toList_eq, Go.Lib.extract_data, List.drop_zero]
  have hl : 0 < s.data.toList.length := by rw [data_length]; omega
  have hb : bt s 0 = ((s.data.toList[0]'hl).toNat : Int) := by
    rw [← rd_bytesOf]
    simp [rd, bytesOf, List.getD_eq_getElem?_getD, List.getElem?_eq_getElem hl]
  rw [hb]
  match hx : s.data.toList, hl with
  | a :: t, _ =>
    show ([a] == [45]) = decide ((a.toNat : Int) = 45)
    rw [Bool.eq_iff_iff, beq_iff_eq, decide_eq_true_iff, List.cons.injEq, and_iff_left rfl]
    constructor
    · intro h; rw [h]; rfl
    · intro h
      refine UInt8.toNat_inj.1 ?_
      show a.toNat = 45
      omega
theorem cutprefix_eq (s : ByteArray) : strings_CutPrefix.f s (⟨#[45]⟩ : ByteArray) = some (if 0 < s.size ∧ bt s 0 = 45 then (s.extract 1 s.size, true) else (s, false)) := by
  unfold strings_CutPrefix.f stringslite_CutPrefix.f stringslite_HasPrefix.f
  have h1 : (((⟨#[45]⟩ : ByteArray).size : Nat) : Int) = 1 := rfl
  rw [h1]
  by_cases hs : 1 ≤ s.size
  · rw [if_pos (by omega), if_pos (by omega), if_pos (by omega), Option.bind_some, show ((1 : Int)).toNat = 1 from rfl, minus_iff s hs]
    by_cases hb : bt s 0 = 45
    · rw [if_pos (by simpa using hb), if_pos (by omega), if_pos (by omega), Option.bind_some, if_pos ⟨by omega, hb⟩]
    · rw [if_neg (by simpa using hb), Option.bind_some, if_neg (fun h => hb h.2)]
  · rw [if_neg (by omega), Option.bind_some, if_neg (by decide), Option.bind_some, if_neg (by omega)]
theorem empty_iff (s : ByteArray) : s.toList = ([] : List UInt8) ↔ s.size = 0 := by
  rw [ByteArray.toList_eq, ← List.length_eq_zero_iff, data_length]
theorem parse_eq (k : Nat) (s : ByteArray) (b : Int) (hs : s.size ≤ 9223372036854775806) (hk : s.size + 20 < k) : digit_Parse.f k s b = some (parF s b) := by
  unfold digit_Parse.f parF
  rw [fit_eq, Option.bind_some]
  by_cases hb : 2 ≤ b ∧ b ≤ 36
  · rw [if_pos (by simpa using hb), if_pos hb, cutprefix_eq, Option.bind_some]
    by_cases hm : 0 < s.size ∧ bt s 0 = 45
    · have hx := extract_size s
      rw [if_pos hm, if_pos hm]
      dsimp only
      by_cases h1 : s.size = 1
      · rw [if_pos ((empty_iff _).2 (by omega)), if_pos h1]
      · rw [if_neg (fun h => h1 (by have := (empty_iff _).1 h; omega)), if_neg h1]
        exact parse_go b hb _ true (by omega) _ k 0 0 0 0 false (by omega) (by simp; rfl) (by omega) (.inl ⟨rfl, rfl, rfl, by omega, by omega⟩)
    · rw [if_neg hm, if_neg hm]
      dsimp only
      by_cases h1 : s.size = 0
      · rw [if_pos ((empty_iff _).2 h1), if_pos h1]
      · rw [if_neg (fun h => h1 ((empty_iff _).1 h)), if_neg h1]
        exact parse_go b hb _ false (by omega) _ k 0 0 0 0 false (by omega) (by simp; rfl) (by omega) (.inl ⟨rfl, rfl, rfl, by omega, by omega⟩)
  · rw [if_neg (by simpa using hb), if_neg hb]
theorem refparse_eq (k : Nat) (s : ByteArray) (b : Int) (hs : s.size ≤ 9223372036854775806) (hk : s.size + 60 < k) : tinderref02_Parse.f k s b = some (parF s b) := by
  obtain ⟨k, rfl⟩ : ∃ k', k = k' + 3 := ⟨k - 3, by omega⟩
  have hj2 : ∀ (neg : Bool) (s : ByteArray), s.size ≤ 9223372036854775806 → s.size + 57 < k → (2 ≤ b ∧ b ≤ 36) → tinderref02_Parse.j2 (k + 1) s b neg = some (if s.size = 0 then (0, 15) else resF neg (parL b (bytesOf s) 0 false)) := by
    intro neg s hs hk hb
    rw [tinderref02_Parse.j2]
    by_cases h1 : s.size = 0
    · rw [if_pos (by omega), if_pos h1]
    · rw [if_neg (by omega), if_neg h1]
      exact refparse_go b hb s neg hs _ k 0 0 false (by omega) (by simp; rfl) (by omega) (fun _ => by omega)
  unfold tinderref02_Parse.f parF
  have hj0 : tinderref02_Parse.j0 (k + 3) s b (decide ¬ (2 ≤ b ∧ b ≤ 36)) = some (if 2 ≤ b ∧ b ≤ 36 then
    (if 0 < s.size ∧ bt s 0 = 45 then (if s.size = 1 then (0, 15) else resF true (parL b (bytesOf (s.extract 1 s.size)) 0 false))
     else (if s.size = 0 then (0, 15) else resF false (parL b (bytesOf s) 0 false)))
  else (0, 1)) := by
    rw [tinderref02_Parse.j0]
    by_cases hb : 2 ≤ b ∧ b ≤ 36
    · rw [if_neg (by simpa using hb), if_pos hb]
      by_cases h0 : 0 < s.size
      · rw [if_pos (by omega), if_pos (by omega), tinderref02_Parse.j1]
        by_cases hm : bt s 0 = 45
        · have hx := extract_size s
          rw [if_pos (by simpa using hm), if_pos (by omega), if_pos ⟨h0, hm⟩, show (bt s 0 == 45) = true by simpa using hm, hj2 true _ (by omega) (by omega) hb, hx]
          by_cases h1 : s.size = 1
          · rw [if_pos (by omega), if_pos h1]
          · rw [if_neg (by omega), if_neg h1]
        · rw [if_neg (by simpa using hm), if_neg (fun h => hm h.2), show (bt s 0 == 45) = false by simpa using hm, hj2 false s hs (by omega) hb]
      · rw [if_neg (by omega), tinderref02_Parse.j1, if_neg (by decide), if_neg (fun h => h0 h.1), hj2 false s hs (by omega) hb]
    · rw [if_pos (decide_eq_true hb), if_neg hb]
  by_cases h1 : b < 2
  · rw [if_pos h1, ← hj0]
    congr 1
    simp
    omega
  · rw [if_neg h1, ← hj0]
    congr 1
    simp
    omega
end Go.Proofs.YthlpdjnfcjpbpaaDoor.Q
